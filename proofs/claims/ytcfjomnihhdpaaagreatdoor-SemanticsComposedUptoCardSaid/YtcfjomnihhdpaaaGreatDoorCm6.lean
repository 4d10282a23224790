/-
  A part of the proof: Q42, Q38, Tie.
-/
import Derived.Test.YtcfjomnihhdpaaaGreatDoorRows
import Derived.LaidByTextLater
import Derived.SevenTiedAt
import Derived.LaidSub
import Derived.LaidOnce
import Derived.Test.YtcfjomnihhdpaaaGreatDoorCm4
import Derived.Test.YtcfjomnihhdpaaaGreatDoorCm5
namespace Go.Proofs.YtcfjomnihhdpaaaGreatDoor.A
open Go.RowKit Go.Proofs.YtcfjomnihhdpaaaGreatDoorW.PrintWords Go.Proofs.YtcfjomnihhdpaaaGreatDoorW.PrintLast Go.Proofs.YtcfjomnihhdpaaaGreatDoorW.PrintMore
set_option linter.unusedVariables false
set_option linter.unusedSimpArgs false
section
attribute [local go_sem] Oper.semAt_some
theorem senP_err {s:Sg} {t:S30} {c:Int} (h:senP s t= .error c):(c != 0)=true:=by
 unfold senP at h
 generalize (sigOk s.ss s.cs s.ps && decide (nodes t≤60) && formedP structL t cS)=A at h
 generalize resP t=B at h
 generalize sentP s 60 t=r at h
 unfold chP at h
 cases A with
 |false=>cases h;rfl
 |true =>
  cases B with
  |false=>cases h;rfl
  |true =>
   rw[if_neg (by decide),if_neg (by decide)]at h
   cases r with
   |none=>cases h;rfl
   |some m =>
    simp only at h
    split at h
    ·cases h;rfl
    ·split at h
     ·cases h;rfl
     ·cases h
section
attribute [local irreducible] wpList
theorem sm_2 {f:ByteArray} {p q:S30} (hf:f.size≤2000000) (hp:Sm p) (hq:Sm q):Sm ⟨f,[],[p,q]⟩:=(Sm.eq _).2 ⟨hf,Nat.zero_le _,by show 2≤2000000;omega,by simp only[SmL];exact ⟨hp,hq,trivial⟩⟩
theorem sm_1 {f:ByteArray} {vs:List Int} {p:S30} (hf:f.size≤2000000) (hv:vs.length≤2000000) (hp:Sm p):Sm ⟨f,vs,[p]⟩:=(Sm.eq _).2 ⟨hf,hv,by show 1≤2000000;omega,by simp only[SmL];exact ⟨hp,trivial⟩⟩
set_option maxHeartbeats 4000000 in
set_option maxRecDepth 100000 in
theorem composed_walk (T:Lib.PrintTabs) (w:World) (hT:Tabs T w) (s:Sg) (t u:S30) (fr tl:Int) (A1:Option Addr) (c1:Nat) (A2:Option Addr) (c2:Nat) (B1:Option Addr) (d1:Nat) (B2:Option Addr) (d2:Nat) (hC:s.C w) (tv:TreeV w t A1 c1 A2 c2) (uv:TreeV w u B1 d1 B2 d2) (st:Sm t) (su:Sm u) (nt:nodes t≤2000000) (nu:nodes u≤2000000) :
  Calls Tryz.prog 8 #[sgV s,.agg #[.string t.f0,.slice A1 t.f1.length c1,.slice A2 t.f2.length c2],.agg #[.string u.f0,.slice B1 u.f1.length d1,.slice B2 u.f2.length d2],.int .i64 fr,.int .i64 tl] w fun e w' =>e= .returned (.bool true)∧Below w.heap.size w w' :=by
 obtain ⟨c,hc⟩:∃c,codeOf (senP s t)=c:=⟨_,rfl⟩
 obtain ⟨d,hd⟩:∃d,codeOf (senP s u)=d:=⟨_,rfl⟩
 refine calls_frN 146 (fun j=>match j with | 0=>sgV s | 1=> .agg #[.string t.f0,.slice A1 t.f1.length c1,.slice A2 t.f2.length c2] | 2=> .agg #[.string u.f0,.slice B1 u.f1.length d1,.slice B2 u.f2.length d2] | 3=> .int .i64 fr | 4=> .int .i64 tl | _=>undef) Tryz.func8 (show Tryz.f8.body=some _ from rfl) (by kernel_rfl) ?_
 refine wp_seq (wp_region_list (list_op (i:=0) rfl (op_box26 rfl rfl rfl rfl hC fun w1 hS b1 s1=>fop rfl (by decide) (list_op (i:=1) rfl (op_box30v rfl rfl rfl rfl (IsT.below ⟨A1,c1,A2,c2,rfl,tv⟩ b1) fun w2 hA b2 s2=>fop rfl (by decide) (list_op (i:=2) rfl (op_box30v rfl rfl rfl rfl (IsT.below ⟨B1,d1,B2,d2,rfl,uv⟩ (below_step b1 b2)) fun w3 hU b3 s3=>fop rfl (by decide) (list_op (i:=3) rfl (op_asgc rfl rfl rfl (fop rfl (by decide) (wp_nil ?_)))))))))))
 rw[s1]at hA s2 ⊢
 rw[s2]at hU ⊢
 replace hS:=(hS.below b2).below b3
 replace hA:=hA.below b3
 have hB:=below_step (below_step b1 b2) b3
 clear b1 b2 b3 s1 s2 s3 tv uv hC
 refine wp_seq (wp_seq (wp_region_list (list_op (i:=0) rfl (op_boolC (vs:= #[]) (P:=fun b=>b=true) rfl rfl (enters_of Tryz.func13 (by kernel_rfl) rfl) rfl (by simp only[List.map_toArray,List.map_nil]) (yes_ (awake_calls T _ (hT.below hB))) fun b wA eb hAw=>fop rfl (by decide) (list_op (i:=1) rfl (op_notb rfl rfl rfl rfl (fop rfl (by decide) (wp_nil (wp_cond rfl ?_)))))))))
 subst eb
 refine wp_skip ?_
 replace hS:=hS.below hAw
 replace hA:=hA.below hAw
 replace hU:=hU.below hAw
 replace hB:=below_step hB hAw
 clear hAw
 refine wp_seq (wp_seq (wp_region_list (list_op (i:=0) rfl (op_loadS rfl rfl rfl rfl hS (fop rfl (by decide) (list_op (i:=1) rfl (op_boolC (vs:= #[sgV s]) (P:=fun _=>True) rfl rfl (enters_of Tryz.func14 (by kernel_rfl) rfl) rfl (by simp only[List.map_toArray,List.map_cons,List.map_nil];rfl) (long_calls s wA) fun b1 wL _ hL=>fop rfl (by decide) (list_op (i:=2) rfl (op_mv (v:= .bool b1) rfl rfl rfl rfl (fop rfl (by decide) ?_))))))))))
 replace hS:=hS.below hL
 replace hA:=hA.below hL
 replace hU:=hU.below hL
 replace hB:=below_step hB hL
 clear hL
 cases b1 with
 |true =>
  refine (list_op (i:=3) rfl (op_skip rfl (wants_n rfl rfl) (fop rfl (by decide) (list_op (i:=4) rfl (op_skip rfl (wants_n rfl rfl) (fop rfl (by decide) (list_op (i:=5) rfl (op_pickT (b:=true) (c:=false) rfl rfl rfl rfl (fun h=>by cases h) (fop rfl (by decide) (list_op (i:=6) rfl (op_mv (v:= .bool true) rfl rfl rfl rfl (fop rfl (by decide) (list_op (i:=7) rfl (op_skip rfl (wants_n rfl rfl) (fop rfl (by decide) (list_op (i:=8) rfl (op_skip rfl (wants_n rfl rfl) (fop rfl (by decide) (list_op (i:=9) rfl (op_pickT (b:=true) (c:=false) rfl rfl rfl rfl (fun h=>by cases h) (fop rfl (by decide) (wp_nil (wp_cond (t:=true) rfl ?_)))))))))))))))))))))))
  refine wp_seq (wp_region_list (list_op (i:=0) rfl (op_asgc rfl rfl rfl (fop rfl (by decide) (wp_nil (wp_ret ?_))))))
  exact bodyPost_yes (show Tryz.f8.results= #[.tmp 10]from rfl) rfl rfl hB
 |false =>
  refine (list_op (i:=3) rfl (wp_guard rfl (wants_y rfl rfl) fun o2 h2=>op_loadT h2 rfl rfl rfl hA fun v2 hv2=>fop rfl (by decide) (list_op (i:=4) rfl (wp_guard rfl (wants_y rfl rfl) fun o2 h2=>op_boolC (vs:= #[v2,.int .i64 25]) (P:=fun b=>b=false→(nodes t:Int)≤25) h2 rfl (enters_of Tryz.func15 (by kernel_rfl) rfl) rfl (by simp only[List.map_toArray,List.map_cons,List.map_nil];rfl) (large_v 25 (by decide) (by decide) nt hv2) fun b2 wM2 hl2 hM2=>fop rfl (by decide) (list_op (i:=5) rfl (op_pickT (b:=false) (c:=b2) rfl rfl rfl rfl (fun _=>rfl) (fop rfl (by decide) (list_op (i:=6) rfl (op_mv (v:= .bool b2) rfl rfl rfl rfl (fop rfl (by decide) ?_))))))))))
  clear hv2
  replace hS:=hS.below hM2
  replace hA:=hA.below hM2
  replace hU:=hU.below hM2
  replace hB:=below_step hB hM2
  clear hM2
  cases b2 with
  |true =>
   refine (list_op (i:=7) rfl (op_skip rfl (wants_n rfl rfl) (fop rfl (by decide) (list_op (i:=8) rfl (op_skip rfl (wants_n rfl rfl) (fop rfl (by decide) (list_op (i:=9) rfl (op_pickT (b:=true) (c:=false) rfl rfl rfl rfl (fun h=>by cases h) (fop rfl (by decide) (wp_nil (wp_cond (t:=true) rfl ?_)))))))))))
   refine wp_seq (wp_region_list (list_op (i:=0) rfl (op_asgc rfl rfl rfl (fop rfl (by decide) (wp_nil (wp_ret ?_))))))
   exact bodyPost_yes (show Tryz.f8.results= #[.tmp 10]from rfl) rfl rfl hB
  |false =>
   have hn2:=hl2 rfl
   clear hl2
   refine (list_op (i:=7) rfl (wp_guard rfl (wants_y rfl rfl) fun o2 h2=>op_loadT h2 rfl rfl rfl hU fun v3 hv3=>fop rfl (by decide) (list_op (i:=8) rfl (wp_guard rfl (wants_y rfl rfl) fun o2 h2=>op_boolC (vs:= #[v3,.int .i64 25]) (P:=fun b=>b=false→(nodes u:Int)≤25) h2 rfl (enters_of Tryz.func15 (by kernel_rfl) rfl) rfl (by simp only[List.map_toArray,List.map_cons,List.map_nil];rfl) (large_v 25 (by decide) (by decide) nu hv3) fun b3 wM3 hl3 hM3=>fop rfl (by decide) (list_op (i:=9) rfl (op_pickT (b:=false) (c:=b3) rfl rfl rfl rfl (fun _=>rfl) (fop rfl (by decide) (wp_nil (wp_cond (t:=b3) rfl ?_)))))))))
   clear hv3
   replace hS:=hS.below hM3
   replace hA:=hA.below hM3
   replace hU:=hU.below hM3
   replace hB:=below_step hB hM3
   clear hM3
   cases b3 with
   |true =>
    refine wp_seq (wp_region_list (list_op (i:=0) rfl (op_asgc rfl rfl rfl (fop rfl (by decide) (wp_nil (wp_ret ?_))))))
    exact bodyPost_yes (show Tryz.f8.results= #[.tmp 10]from rfl) rfl rfl hB
   |false =>
    have hn3:=hl3 rfl
    clear hl3
    refine wp_skip ?_
    refine wp_seq (wp_region_list (list_op (i:=0) rfl (op_loadS rfl rfl rfl rfl hS (fop rfl (by decide) (list_op (i:=1) rfl (op_loadT rfl rfl rfl rfl hA fun v5 h5=>fop rfl (by decide) (list_op (i:=2) rfl (op_sentC (T:=T) (s:=s) (t:=t) rfl rfl rfl rfl rfl hc h5 (hT.below hB) hS.2 st (by omega) fun u5 x5 hu5 p5=>fop rfl (by decide) (list_op (i:=3) rfl (op_mv (v:= .tuple #[u5,.int .i64 c]) rfl rfl rfl rfl (fop rfl (by decide) (list_op (i:=4) rfl (op_ext (v:=u5) rfl rfl rfl rfl rfl (fop rfl (by decide) (list_op (i:=5) rfl (op_ext (v:= .int .i64 c) rfl rfl rfl rfl rfl (fop rfl (by decide) (list_op (i:=6) rfl (op_new37 rfl rfl rfl (fop rfl (by decide) (list_op (i:=7) rfl (op_store37 rfl rfl rfl rfl rfl rfl (heap_alloc_new _ _) ((hu5.mono (ok' :=fun k=>k≠x5.heap.size) (fun k _ hk=>by omega)).below (below_alloc (Below.refl _ _) _)) fun y5 hF5 q5 _=>(list_op (i:=8) rfl (op_asg (v:= .int .i64 c) rfl rfl rfl rfl (fop rfl (by decide) (wp_nil ?_))))))))))))))))))))))))))
    have hk5:=below_step p5 ((below_alloc (Below.refl x5.heap.size x5) zero37).trans (q5 x5.heap.size (Nat.le_refl _)))
    replace hS:=hS.below hk5
    replace hA:=hA.below hk5
    replace hU:=hU.below hk5
    replace hB:=below_step hB hk5
    clear hk5
    clear p5 q5 hu5 h5
    generalize hg5:x5.heap.size=e5 at *
    clear hg5
    refine wp_seq (wp_region_list (list_op (i:=0) rfl (op_loadS rfl rfl rfl rfl hS (fop rfl (by decide) (list_op (i:=1) rfl (op_loadT rfl rfl rfl rfl hU fun v6 h6=>fop rfl (by decide) (list_op (i:=2) rfl (op_sentC (T:=T) (s:=s) (t:=u) rfl rfl rfl rfl rfl hd h6 (hT.below hB) hS.2 su (by omega) fun u6 x6 hu6 p6=>fop rfl (by decide) (list_op (i:=3) rfl (op_mv (v:= .tuple #[u6,.int .i64 d]) rfl rfl rfl rfl (fop rfl (by decide) (list_op (i:=4) rfl (op_ext (v:=u6) rfl rfl rfl rfl rfl (fop rfl (by decide) (list_op (i:=5) rfl (op_ext (v:= .int .i64 d) rfl rfl rfl rfl rfl (fop rfl (by decide) (list_op (i:=6) rfl (op_new37 rfl rfl rfl (fop rfl (by decide) (list_op (i:=7) rfl (op_store37 rfl rfl rfl rfl rfl rfl (heap_alloc_new _ _) ((hu6.mono (ok' :=fun k=>k≠x6.heap.size) (fun k _ hk=>by omega)).below (below_alloc (Below.refl _ _) _)) fun y6 hF6 q6 _=>(list_op (i:=8) rfl (op_asg (v:= .int .i64 d) rfl rfl rfl rfl (fop rfl (by decide) (wp_nil ?_))))))))))))))))))))))))))
    have hk6:=below_step p6 ((below_alloc (Below.refl x6.heap.size x6) zero37).trans (q6 x6.heap.size (Nat.le_refl _)))
    replace hS:=hS.below hk6
    replace hA:=hA.below hk6
    replace hU:=hU.below hk6
    replace hF5:=hF5.below hk6
    replace hB:=below_step hB hk6
    clear hk6
    clear p6 q6 hu6 h6
    generalize hg6:x6.heap.size=e6 at *
    clear hg6
    generalize y6=V at *
    cases hq1:senP s t with
    |error e0 =>
     obtain rfl:e0=c:=by rw[←hc,hq1];rfl
     refine wp_seq (wp_seq (wp_region_list (list_op (i:=0) rfl (op_mv (v:= .int .i64 e0) rfl rfl rfl rfl (fop rfl (by decide) (list_op (i:=1) rfl (op_nec (n:=e0) (m:=0) (b:=true) rfl rfl rfl (senP_err hq1) rfl (fop rfl (by decide) (list_op (i:=2) rfl (op_mv (v:= .bool true) rfl rfl rfl rfl (fop rfl (by decide) (list_op (i:=3) rfl (op_skip rfl (wants_n rfl rfl) (fop rfl (by decide) (list_op (i:=4) rfl (op_skip rfl (wants_n rfl rfl) (fop rfl (by decide) (list_op (i:=5) rfl (op_pickT (b:=true) (c:=false) rfl rfl rfl rfl (fun h=>by cases h) (fop rfl (by decide) (wp_nil (wp_cond (t:=true) rfl ?_))))))))))))))))))))))
     refine wp_seq (wp_region_list (list_op (i:=0) rfl (op_asgc rfl rfl rfl (fop rfl (by decide) (wp_nil (wp_ret ?_))))))
     exact bodyPost_yes (show Tryz.f8.results= #[.tmp 10]from rfl) rfl rfl hB
    |ok m1 =>
     obtain rfl:0=c:=by rw[←hc,hq1];rfl
     cases hq2:senP s u with
     |error e0 =>
      obtain rfl:e0=d:=by rw[←hd,hq2];rfl
      refine wp_seq (wp_seq (wp_region_list (list_op (i:=0) rfl (op_mv (v:= .int .i64 0) rfl rfl rfl rfl (fop rfl (by decide) (list_op (i:=1) rfl (op_nec (n:=0) (m:=0) (b:=false) rfl rfl rfl rfl rfl (fop rfl (by decide) (list_op (i:=2) rfl (op_mv (v:= .bool false) rfl rfl rfl rfl (fop rfl (by decide) (list_op (i:=3) rfl (wp_guard rfl (wants_y rfl rfl) fun o2 h2=>op_mv (v:= .int .i64 e0) h2 rfl rfl rfl (fop rfl (by decide) (list_op (i:=4) rfl (wp_guard rfl (wants_y rfl rfl) fun o2 h2=>op_nec (n:=e0) (m:=0) (b:=true) h2 rfl rfl (senP_err hq2) rfl (fop rfl (by decide) (list_op (i:=5) rfl (op_pickT (b:=false) (c:=true) rfl rfl rfl rfl (fun _=>rfl) (fop rfl (by decide) (wp_nil (wp_cond (t:=true) rfl ?_))))))))))))))))))))))
      refine wp_seq (wp_region_list (list_op (i:=0) rfl (op_asgc rfl rfl rfl (fop rfl (by decide) (wp_nil (wp_ret ?_))))))
      exact bodyPost_yes (show Tryz.f8.results= #[.tmp 10]from rfl) rfl rfl hB
     |ok m2 =>
      obtain rfl:0=d:=by rw[←hd,hq2];rfl
      rw[hq1]at hF5
      rw[hq2]at hF6
      have hF1:AtF V e5 m1.f0:=hF5
      have hF2:AtF V e6 m2.f0:=hF6
      clear hF5 hF6 hc hd
      refine wp_seq (wp_seq (wp_region_list (list_op (i:=0) rfl (op_mv (v:= .int .i64 0) rfl rfl rfl rfl (fop rfl (by decide) (list_op (i:=1) rfl (op_nec (n:=0) (m:=0) (b:=false) rfl rfl rfl rfl rfl (fop rfl (by decide) (list_op (i:=2) rfl (op_mv (v:= .bool false) rfl rfl rfl rfl (fop rfl (by decide) (list_op (i:=3) rfl (wp_guard rfl (wants_y rfl rfl) fun o2 h2=>op_mv (v:= .int .i64 0) h2 rfl rfl rfl (fop rfl (by decide) (list_op (i:=4) rfl (wp_guard rfl (wants_y rfl rfl) fun o2 h2=>op_nec (n:=0) (m:=0) (b:=false) h2 rfl rfl rfl rfl (fop rfl (by decide) (list_op (i:=5) rfl (op_pickT (b:=false) (c:=false) rfl rfl rfl rfl (fun _=>rfl) (fop rfl (by decide) (wp_nil (wp_cond (t:=false) rfl ?_))))))))))))))))))))))
      refine wp_skip ?_
      have b0:∀{V1},Below V.heap.size V V1→Below w.heap.size w V1:=fun h=>below_step hB h
      have bw:∀{V1},Below V.drew.heap.size V.drew V1→Below V.heap.size V V1:=fun hB=>below_step (below_drew (Below.refl _ _)) hB
      refine wp_seq (wp_seq (region_kn0 146 (.is (sgV s):: .isT t:: .isT u:: .isL [t,u]:: .isT ⟨nAnd,[],[t,u]⟩:: .fm m1.f0:: .fm m2.f0:: .fs [m1.f0,m2.f0]:: .fm (opF 5 [m1.f0,m2.f0]):: .is (.bool true):: .is (.bool false):: .is (.bool false):: .is (sgV s):: .isT t:: .isT u:: .isL [t,u]:: .isT ⟨nOr,[],[t,u]⟩:: .fm m1.f0:: .fm m2.f0:: .fs [m1.f0,m2.f0]:: .fm (opF 6 [m1.f0,m2.f0]):: .is (.bool true):: .is (.bool false):: .is (.bool false):: .is (.bool false):: .is (sgV s):: .isT t:: .isT u:: .isL [t,u]:: .isT ⟨nIf,[],[t,u]⟩:: .fm m1.f0:: .fm m2.f0:: .fs [m1.f0,m2.f0]:: .fm (opF 7 [m1.f0,m2.f0]):: .is (.bool true):: .is (.bool false):: .is (.bool false):: .is (.bool false):: .is (sgV s):: .isT t:: .isL [t]:: .isT ⟨nPlease,[],[t]⟩:: .fm m1.f0:: .is (.bool true):: .is (.bool false):: .is (.bool false)::[]) [48,49,50,51,52,53,54,55,56,57,58,59,60,61,62,63,64,65,66,67,68,69,70,71,72,73,74,75,76,77,78,79,80,81,82,83,84,85,86,87,88,89,90,91,92,93] _ V (by kernel_rfl) (by kernel_rfl) ⟨
       fun q V J hB hq h hi=>op_loadS hi rfl rfl rfl (hS.below (bw hB)) (h _ _ rfl (.refl _ _)),
       fun q V J hB hq h hi=>op_loadT hi rfl rfl rfl (hA.below (bw hB)) fun u hu=>h _ _ hu (.refl _ _),
       fun q V J hB hq h hi=>op_loadT hi rfl rfl rfl (hU.below (bw hB)) fun u hu=>h _ _ hu (.refl _ _),
       fun q V J hB hq h hi=>op_row2 hi rfl rfl rfl rfl (hq 1 rfl) (hq 2 rfl) h,
       fun q V J hB hq h hi=>op_tree (nm:=nAnd) hi rfl rfl rfl (hq 3 rfl) h,
       fun q V J hB hq h hi=>op_loadF hi rfl rfl rfl (hF1.below (bw hB)) fun u hu=>h _ _ hu (.refl _ _),
       fun q V J hB hq h hi=>op_loadF hi rfl rfl rfl (hF2.below (bw hB)) fun u hu=>h _ _ hu (.refl _ _),
       fun q V J hB hq h hi=>op_fs2 hi rfl rfl rfl rfl (hq 5 rfl) (hq 6 rfl) h,
       fun q V J hB hq h hi=>op_join (op:=5) hi rfl rfl rfl (hq 7 rfl) h,
       fun q V J hB hq h hi=>op_means (T:=T) (s:=s) (t:=⟨nAnd,[],[t,u]⟩) (F:=(opF 5 [m1.f0,m2.f0])) hi rfl rfl (hq 0 rfl) rfl rfl (hq 4 rfl) (hq 8 rfl) (hT.below (b0 (bw hB))) (hS.below (bw hB)).2 (by exact sm_2 (by decide) st su) (by show nodes t+(nodes u+0)+1≤500;omega) (ok_nAnd hq1 hq2 (by omega)) fun w1 hb=>h _ _ rfl hb,
       fun q V J hB hq h hi=>op_notb hi rfl rfl (hq 9 rfl) (h _ _ rfl (.refl _ _)),
       fun q V J hB hq h hi=>op_mv hi rfl rfl (hq 10 rfl) (h _ _ rfl (.refl _ _)),
       fun q V J hB hq h hi=>wp_guard hi (wants_y rfl (congrArg some (hq 11 rfl))) fun o2 h2=>op_loadS h2 rfl rfl rfl (hS.below (bw hB)) (h _ _ rfl (.refl _ _)),
       fun q V J hB hq h hi=>wp_guard hi (wants_y rfl (congrArg some (hq 11 rfl))) fun o2 h2=>op_loadT h2 rfl rfl rfl (hA.below (bw hB)) fun u hu=>h _ _ hu (.refl _ _),
       fun q V J hB hq h hi=>wp_guard hi (wants_y rfl (congrArg some (hq 11 rfl))) fun o2 h2=>op_loadT h2 rfl rfl rfl (hU.below (bw hB)) fun u hu=>h _ _ hu (.refl _ _),
       fun q V J hB hq h hi=>wp_guard hi (wants_y rfl (congrArg some (hq 11 rfl))) fun o2 h2=>op_row2 h2 rfl rfl rfl rfl (hq 13 rfl) (hq 14 rfl) h,
       fun q V J hB hq h hi=>wp_guard hi (wants_y rfl (congrArg some (hq 11 rfl))) fun o2 h2=>op_tree (nm:=nOr) h2 rfl rfl rfl (hq 15 rfl) h,
       fun q V J hB hq h hi=>wp_guard hi (wants_y rfl (congrArg some (hq 11 rfl))) fun o2 h2=>op_loadF h2 rfl rfl rfl (hF1.below (bw hB)) fun u hu=>h _ _ hu (.refl _ _),
       fun q V J hB hq h hi=>wp_guard hi (wants_y rfl (congrArg some (hq 11 rfl))) fun o2 h2=>op_loadF h2 rfl rfl rfl (hF2.below (bw hB)) fun u hu=>h _ _ hu (.refl _ _),
       fun q V J hB hq h hi=>wp_guard hi (wants_y rfl (congrArg some (hq 11 rfl))) fun o2 h2=>op_fs2 h2 rfl rfl rfl rfl (hq 17 rfl) (hq 18 rfl) h,
       fun q V J hB hq h hi=>wp_guard hi (wants_y rfl (congrArg some (hq 11 rfl))) fun o2 h2=>op_join (op:=6) h2 rfl rfl rfl (hq 19 rfl) h,
       fun q V J hB hq h hi=>wp_guard hi (wants_y rfl (congrArg some (hq 11 rfl))) fun o2 h2=>op_means (T:=T) (s:=s) (t:=⟨nOr,[],[t,u]⟩) (F:=(opF 6 [m1.f0,m2.f0])) h2 rfl rfl (hq 12 rfl) rfl rfl (hq 16 rfl) (hq 20 rfl) (hT.below (b0 (bw hB))) (hS.below (bw hB)).2 (by exact sm_2 (by decide) st su) (by show nodes t+(nodes u+0)+1≤500;omega) (ok_nOr hq1 hq2 (by omega)) fun w1 hb=>h _ _ rfl hb,
       fun q V J hB hq h hi=>wp_guard hi (wants_y rfl (congrArg some (hq 11 rfl))) fun o2 h2=>op_notb h2 rfl rfl (hq 21 rfl) (h _ _ rfl (.refl _ _)),
       fun q V J hB hq h hi=>op_pickT (b:=false) (c:=false) hi rfl rfl (hq 11 rfl) (fun _=>hq 22 rfl) (h _ _ rfl (.refl _ _)),
       fun q V J hB hq h hi=>op_mv hi rfl rfl (hq 23 rfl) (h _ _ rfl (.refl _ _)),
       fun q V J hB hq h hi=>wp_guard hi (wants_y rfl (congrArg some (hq 24 rfl))) fun o2 h2=>op_loadS h2 rfl rfl rfl (hS.below (bw hB)) (h _ _ rfl (.refl _ _)),
       fun q V J hB hq h hi=>wp_guard hi (wants_y rfl (congrArg some (hq 24 rfl))) fun o2 h2=>op_loadT h2 rfl rfl rfl (hA.below (bw hB)) fun u hu=>h _ _ hu (.refl _ _),
       fun q V J hB hq h hi=>wp_guard hi (wants_y rfl (congrArg some (hq 24 rfl))) fun o2 h2=>op_loadT h2 rfl rfl rfl (hU.below (bw hB)) fun u hu=>h _ _ hu (.refl _ _),
       fun q V J hB hq h hi=>wp_guard hi (wants_y rfl (congrArg some (hq 24 rfl))) fun o2 h2=>op_row2 h2 rfl rfl rfl rfl (hq 26 rfl) (hq 27 rfl) h,
       fun q V J hB hq h hi=>wp_guard hi (wants_y rfl (congrArg some (hq 24 rfl))) fun o2 h2=>op_tree (nm:=nIf) h2 rfl rfl rfl (hq 28 rfl) h,
       fun q V J hB hq h hi=>wp_guard hi (wants_y rfl (congrArg some (hq 24 rfl))) fun o2 h2=>op_loadF h2 rfl rfl rfl (hF1.below (bw hB)) fun u hu=>h _ _ hu (.refl _ _),
       fun q V J hB hq h hi=>wp_guard hi (wants_y rfl (congrArg some (hq 24 rfl))) fun o2 h2=>op_loadF h2 rfl rfl rfl (hF2.below (bw hB)) fun u hu=>h _ _ hu (.refl _ _),
       fun q V J hB hq h hi=>wp_guard hi (wants_y rfl (congrArg some (hq 24 rfl))) fun o2 h2=>op_fs2 h2 rfl rfl rfl rfl (hq 30 rfl) (hq 31 rfl) h,
       fun q V J hB hq h hi=>wp_guard hi (wants_y rfl (congrArg some (hq 24 rfl))) fun o2 h2=>op_join (op:=7) h2 rfl rfl rfl (hq 32 rfl) h,
       fun q V J hB hq h hi=>wp_guard hi (wants_y rfl (congrArg some (hq 24 rfl))) fun o2 h2=>op_means (T:=T) (s:=s) (t:=⟨nIf,[],[t,u]⟩) (F:=(opF 7 [m1.f0,m2.f0])) h2 rfl rfl (hq 25 rfl) rfl rfl (hq 29 rfl) (hq 33 rfl) (hT.below (b0 (bw hB))) (hS.below (bw hB)).2 (by exact sm_2 (by decide) st su) (by show nodes t+(nodes u+0)+1≤500;omega) (ok_nIf hq1 hq2 (by omega)) fun w1 hb=>h _ _ rfl hb,
       fun q V J hB hq h hi=>wp_guard hi (wants_y rfl (congrArg some (hq 24 rfl))) fun o2 h2=>op_notb h2 rfl rfl (hq 34 rfl) (h _ _ rfl (.refl _ _)),
       fun q V J hB hq h hi=>op_pickT (b:=false) (c:=false) hi rfl rfl (hq 24 rfl) (fun _=>hq 35 rfl) (h _ _ rfl (.refl _ _)),
       fun q V J hB hq h hi=>op_mv hi rfl rfl (hq 36 rfl) (h _ _ rfl (.refl _ _)),
       fun q V J hB hq h hi=>wp_guard hi (wants_y rfl (congrArg some (hq 37 rfl))) fun o2 h2=>op_loadS h2 rfl rfl rfl (hS.below (bw hB)) (h _ _ rfl (.refl _ _)),
       fun q V J hB hq h hi=>wp_guard hi (wants_y rfl (congrArg some (hq 37 rfl))) fun o2 h2=>op_loadT h2 rfl rfl rfl (hA.below (bw hB)) fun u hu=>h _ _ hu (.refl _ _),
       fun q V J hB hq h hi=>wp_guard hi (wants_y rfl (congrArg some (hq 37 rfl))) fun o2 h2=>op_row1 h2 rfl rfl rfl (hq 39 rfl) h,
       fun q V J hB hq h hi=>wp_guard hi (wants_y rfl (congrArg some (hq 37 rfl))) fun o2 h2=>op_tree (nm:=nPlease) h2 rfl rfl rfl (hq 40 rfl) h,
       fun q V J hB hq h hi=>wp_guard hi (wants_y rfl (congrArg some (hq 37 rfl))) fun o2 h2=>op_loadF h2 rfl rfl rfl (hF1.below (bw hB)) fun u hu=>h _ _ hu (.refl _ _),
       fun q V J hB hq h hi=>wp_guard hi (wants_y rfl (congrArg some (hq 37 rfl))) fun o2 h2=>op_means (T:=T) (s:=s) (t:=⟨nPlease,[],[t]⟩) (F:=m1.f0) h2 rfl rfl (hq 38 rfl) rfl rfl (hq 41 rfl) (hq 42 rfl) (hT.below (b0 (bw hB))) (hS.below (bw hB)).2 (by exact sm_1 (by decide) (Nat.zero_le _) st) (by show nodes t+0+1≤500;omega) (ok_nPlease hq1 (by omega)) fun w1 hb=>h _ _ rfl hb,
       fun q V J hB hq h hi=>wp_guard hi (wants_y rfl (congrArg some (hq 37 rfl))) fun o2 h2=>op_notb h2 rfl rfl (hq 43 rfl) (h _ _ rfl (.refl _ _)),
       fun q V J hB hq h hi=>op_pickT (b:=false) (c:=false) hi rfl rfl (hq 37 rfl) (fun _=>hq 44 rfl) (h _ _ rfl (.refl _ _)),trivial⟩ ?_))
      intro q9 V9 hB9 hx9
      have hk9:=bw hB9
      refine wp_cond (t:=false) (hx9 45 (by decide)) ?_
      refine wp_skip ?_
      replace hS:=hS.below hk9
      replace hA:=hA.below hk9
      replace hF1:=hF1.below hk9
      replace hB:=below_step hB hk9
      clear hk9 hB9 hx9 bw b0 hU hF2
      obtain ⟨r1,hr1⟩:∃b,decide (fr<0)=b:=⟨_,rfl⟩
      obtain ⟨r2,hr2⟩:∃b,decide (1439999999<fr)=b:=⟨_,rfl⟩
      obtain ⟨r3,hr3⟩:∃b,decide (tl<0)=b:=⟨_,rfl⟩
      obtain ⟨r4,hr4⟩:∃b,decide (1439999999<tl)=b:=⟨_,rfl⟩
      refine wp_seq (wp_seq (wp_region_list (list_op (i:=0) rfl (op_mv (v:= .int .i64 fr) rfl rfl rfl rfl (fop rfl (by decide) (list_op (i:=1) rfl (op_ltcb (n:=fr) (m:=0) (b:=r1) rfl rfl rfl hr1 rfl (fop rfl (by decide) (list_op (i:=2) rfl (op_mv (v:= .bool r1) rfl rfl rfl rfl (fop rfl (by decide) ?_)))))))))))
      cases r1 with
      |true =>
       refine (list_op (i:=3) rfl (op_skip rfl (wants_n rfl rfl) (fop rfl (by decide) (list_op (i:=4) rfl (op_skip rfl (wants_n rfl rfl) (fop rfl (by decide) (list_op (i:=5) rfl (op_pickT (b:=true) (c:=false) rfl rfl rfl rfl (fun h=>by cases h) (fop rfl (by decide) (list_op (i:=6) rfl (op_mv (v:= .bool true) rfl rfl rfl rfl (fop rfl (by decide) (list_op (i:=7) rfl (op_skip rfl (wants_n rfl rfl) (fop rfl (by decide) (list_op (i:=8) rfl (op_skip rfl (wants_n rfl rfl) (fop rfl (by decide) (list_op (i:=9) rfl (op_pickT (b:=true) (c:=false) rfl rfl rfl rfl (fun h=>by cases h) (fop rfl (by decide) (list_op (i:=10) rfl (op_mv (v:= .bool true) rfl rfl rfl rfl (fop rfl (by decide) (list_op (i:=11) rfl (op_skip rfl (wants_n rfl rfl) (fop rfl (by decide) (list_op (i:=12) rfl (op_skip rfl (wants_n rfl rfl) (fop rfl (by decide) (list_op (i:=13) rfl (op_pickT (b:=true) (c:=false) rfl rfl rfl rfl (fun h=>by cases h) (fop rfl (by decide) (wp_nil (wp_cond (t:=true) rfl ?_)))))))))))))))))))))))))))))))))))
       refine wp_seq (wp_region_list (list_op (i:=0) rfl (op_asgc rfl rfl rfl (fop rfl (by decide) (wp_nil (wp_ret ?_))))))
       exact bodyPost_yes (show Tryz.f8.results= #[.tmp 10]from rfl) rfl rfl hB
      |false =>
       refine (list_op (i:=3) rfl (wp_guard rfl (wants_y rfl rfl) fun o2 h2=>op_mv (v:= .int .i64 fr) h2 rfl rfl rfl (fop rfl (by decide) (list_op (i:=4) rfl (wp_guard rfl (wants_y rfl rfl) fun o2 h2=>op_gtcb (n:=fr) (m:=1439999999) (b:=r2) h2 rfl rfl hr2 rfl (fop rfl (by decide) (list_op (i:=5) rfl (op_pickT (b:=false) (c:=r2) rfl rfl rfl rfl (fun _=>rfl) (fop rfl (by decide) (list_op (i:=6) rfl (op_mv (v:= .bool r2) rfl rfl rfl rfl (fop rfl (by decide) ?_))))))))))))
       cases r2 with
       |true =>
        refine (list_op (i:=7) rfl (op_skip rfl (wants_n rfl rfl) (fop rfl (by decide) (list_op (i:=8) rfl (op_skip rfl (wants_n rfl rfl) (fop rfl (by decide) (list_op (i:=9) rfl (op_pickT (b:=true) (c:=false) rfl rfl rfl rfl (fun h=>by cases h) (fop rfl (by decide) (list_op (i:=10) rfl (op_mv (v:= .bool true) rfl rfl rfl rfl (fop rfl (by decide) (list_op (i:=11) rfl (op_skip rfl (wants_n rfl rfl) (fop rfl (by decide) (list_op (i:=12) rfl (op_skip rfl (wants_n rfl rfl) (fop rfl (by decide) (list_op (i:=13) rfl (op_pickT (b:=true) (c:=false) rfl rfl rfl rfl (fun h=>by cases h) (fop rfl (by decide) (wp_nil (wp_cond (t:=true) rfl ?_)))))))))))))))))))))))
        refine wp_seq (wp_region_list (list_op (i:=0) rfl (op_asgc rfl rfl rfl (fop rfl (by decide) (wp_nil (wp_ret ?_))))))
        exact bodyPost_yes (show Tryz.f8.results= #[.tmp 10]from rfl) rfl rfl hB
       |false =>
        refine (list_op (i:=7) rfl (wp_guard rfl (wants_y rfl rfl) fun o2 h2=>op_mv (v:= .int .i64 tl) h2 rfl rfl rfl (fop rfl (by decide) (list_op (i:=8) rfl (wp_guard rfl (wants_y rfl rfl) fun o2 h2=>op_ltcb (n:=tl) (m:=0) (b:=r3) h2 rfl rfl hr3 rfl (fop rfl (by decide) (list_op (i:=9) rfl (op_pickT (b:=false) (c:=r3) rfl rfl rfl rfl (fun _=>rfl) (fop rfl (by decide) (list_op (i:=10) rfl (op_mv (v:= .bool r3) rfl rfl rfl rfl (fop rfl (by decide) ?_))))))))))))
        cases r3 with
        |true =>
         refine (list_op (i:=11) rfl (op_skip rfl (wants_n rfl rfl) (fop rfl (by decide) (list_op (i:=12) rfl (op_skip rfl (wants_n rfl rfl) (fop rfl (by decide) (list_op (i:=13) rfl (op_pickT (b:=true) (c:=false) rfl rfl rfl rfl (fun h=>by cases h) (fop rfl (by decide) (wp_nil (wp_cond (t:=true) rfl ?_)))))))))))
         refine wp_seq (wp_region_list (list_op (i:=0) rfl (op_asgc rfl rfl rfl (fop rfl (by decide) (wp_nil (wp_ret ?_))))))
         exact bodyPost_yes (show Tryz.f8.results= #[.tmp 10]from rfl) rfl rfl hB
        |false =>
         refine (list_op (i:=11) rfl (wp_guard rfl (wants_y rfl rfl) fun o2 h2=>op_mv (v:= .int .i64 tl) h2 rfl rfl rfl (fop rfl (by decide) (list_op (i:=12) rfl (wp_guard rfl (wants_y rfl rfl) fun o2 h2=>op_gtcb (n:=tl) (m:=1439999999) (b:=r4) h2 rfl rfl hr4 rfl (fop rfl (by decide) (list_op (i:=13) rfl (op_pickT (b:=false) (c:=r4) rfl rfl rfl rfl (fun _=>rfl) (fop rfl (by decide) (wp_nil (wp_cond (t:=r4) rfl ?_)))))))))))
         cases r4 with
         |true =>
          refine wp_seq (wp_region_list (list_op (i:=0) rfl (op_asgc rfl rfl rfl (fop rfl (by decide) (wp_nil (wp_ret ?_))))))
          exact bodyPost_yes (show Tryz.f8.results= #[.tmp 10]from rfl) rfl rfl hB
         |false =>
          refine wp_skip ?_
          have hv1:valOk fr=true:=by
           have:=of_decide_eq_false hr1
           have:=of_decide_eq_false hr2
           unfold valOk
           rw[decide_eq_true (by omega),decide_eq_true (by omega)]
           rfl
          have hv2:valOk tl=true:=by
           have:=of_decide_eq_false hr3
           have:=of_decide_eq_false hr4
           unfold valOk
           rw[decide_eq_true (by omega),decide_eq_true (by omega)]
           rfl
          refine wp_seq (wp_region_list (list_op (i:=0) rfl (op_mv (v:= .int .i64 fr) rfl rfl rfl rfl (fop rfl (by decide) (list_op (i:=1) rfl (op_mv (v:= .int .i64 tl) rfl rfl rfl rfl (fop rfl (by decide) (list_op (i:=2) rfl (op_loadF rfl rfl rfl rfl hF1 fun v1 j1=>fop rfl (by decide) (list_op (i:=3) rfl (op_fs1 rfl rfl rfl rfl j1 fun v2 z2 j2 k2=>fop rfl (by decide) (list_op (i:=4) rfl (op_bd10 (fr:=fr) (tl:=tl) rfl rfl rfl rfl rfl rfl j2 fun v3 j3=>fop rfl (by decide) (list_op (i:=5) rfl (op_new37 rfl rfl rfl (fop rfl (by decide) (list_op (i:=6) rfl (op_st37v (w0:=z2) rfl rfl rfl rfl rfl rfl j3 (below_alloc (Below.refl _ _) _) (Nat.le_refl _) (heap_alloc_new _ _) fun U hD k5=>(wp_nil ?_)))))))))))))))))))
          have hk13:=below_step k2 k5
          replace hS:=hS.below hk13
          replace hA:=hA.below hk13
          replace hF1:=hF1.below hk13
          replace hB:=below_step hB hk13
          clear hk13 k2 k5 j1 j2 j3
          generalize z2.heap.size=g15 at *
          obtain ⟨D2,e2,D5,e5,hD,hFD⟩:=hD
          have bw:∀{V},Below U.drew.heap.size U.drew V→Below U.heap.size U V:=fun hB=>below_step (below_drew (Below.refl _ _)) hB
          refine wp_seq (region_box 37 #[.int .i64 0,.string ⟨#[]⟩,.slice none 0 0,.int .i64 0,.int .i64 0,.slice none 0 0] (fun v=>match v with | .agg a=>a | _=> #[]) 146 [.is (.agg #[.int .i64 10,.string ⟨#[]⟩,.slice D2 0 e2,.int .i64 fr,.int .i64 tl,.slice D5 1 e5]),.is (.agg #[.int .i64 10,.string ⟨#[]⟩,.slice D2 0 e2,.int .i64 fr,.int .i64 tl,.slice D5 1 e5]),.top,.top,.top,.top] [⟨2,4,0⟩,⟨3,5,1⟩] [113,114,16,17,998,999] _ U (by kernel_rfl) (by kernel_rfl) (by kernel_rfl) ?_ ⟨
           fun q V J pr hB hp hq h hi=>op_ld37x hi rfl rfl rfl ⟨blk_below hD (bw hB),_,_,_,_,_,_,rfl⟩ (h _ _ rfl (.refl _ _)),
           fun q V J pr hB hp hq h hi=>op_ld37x hi rfl rfl rfl ⟨blk_below hD (bw hB),_,_,_,_,_,_,rfl⟩ (h _ _ rfl (.refl _ _)),
           fun x V J h hi=>op_new37 hi rfl rfl h,
           fun x V J h hi=>op_new37 hi rfl rfl h,
           fun x V J g pr hx hc hz h hi=>op_st37x hi rfl rfl rfl hx hc hz fun w' h1 h2 h3=>h undef w' (by rw[show x 0=_ from hc];exact h1) h2 h3,
           fun x V J g pr hx hc hz h hi=>op_st37x hi rfl rfl rfl hx hc hz fun w' h1 h2 h3=>h undef w' (by rw[show x 1=_ from hc];exact h1) h2 h3,trivial⟩ ?_)
          ·intro j hj v w pr
           by_cases j2:j=2
           ·subst j2;trivial
           by_cases j3:j=3
           ·subst j3;trivial
           by_cases j4:j=4
           ·subst j4;trivial
           by_cases j5:j=5
           ·subst j5;trivial
           exact absurd (fun b hb=>by
            rcases List.mem_cons.1 hb with rfl | hb
            ·exact ⟨fun e=>j2 e.symm,fun e=>j4 e.symm⟩
            ·rw[List.mem_singleton.1 hb]
             exact ⟨fun e=>j3 e.symm,fun e=>j5 e.symm⟩) hj
          intro q V hBV hx hI
          obtain ⟨ga,ea,na,za⟩:=hI.at_ ⟨2,4,0⟩ (by simp) rfl
          obtain ⟨gb,eb,nb,zb⟩:=hI.at_ ⟨3,5,1⟩ (by simp) rfl
          rw[if_pos rfl,show q (⟨2,4,0⟩:Bx).c=_ from hx 0 (by decide) (by simp)]at za
          rw[if_pos rfl,show q (⟨3,5,1⟩:Bx).c=_ from hx 1 (by decide) (by simp)]at zb
          have hab:gb≠ga:=fun e=>hI.ne ⟨2,4,0⟩ (by simp) ⟨3,5,1⟩ (by simp) rfl rfl (by decide) (by rw[ea,eb,e])
          replace ea:q 2= .pointer (some ⟨ga,0,none⟩):=ea
          replace eb:q 3= .pointer (some ⟨gb,0,none⟩):=eb
          replace na:U.heap.size≤ga:=na
          replace nb:U.heap.size≤gb:=nb
          have hk14:=bw hBV
          clear hx hI hBV bw
          refine wp_seq (wp_region_list (list_op (i:=0) rfl (op_fa37 (m:=4) rfl rfl (by decide) rfl ea (fop rfl (by decide) (list_op (i:=1) rfl (op_st3c (n:= -1) rfl rfl rfl rfl rfl za (by show 4<6;decide) fun X1 a1 a2 a3=>(list_op (i:=2) rfl (op_fa37 (m:=3) rfl rfl (by decide) rfl eb (fop rfl (by decide) (list_op (i:=3) rfl (op_st3c (n:= -1) rfl rfl rfl rfl rfl ((a2 gb hab).trans zb) (by show 3<6;decide) fun X2 a4 a5 a6=>(wp_nil ?_))))))))))))
          have hX:Below U.heap.size U X2:=(hk14.trans (a3 _ na)).trans (a6 _ nb)
          have hG0:AtF X2 g15 ⟨10,⟨#[]⟩,[],fr,tl,[m1.f0]⟩:=AtF.below ⟨D2,e2,D5,e5,hD,hFD⟩ hX
          have hFX:=hFD.below hX
          have hGa:AtF X2 ga ⟨10,⟨#[]⟩,[],fr,-1,[m1.f0]⟩:=⟨D2,e2,D5,e5,(a5 ga (fun e=>hab e.symm)).trans a1,hFX.l2,hFX.a,hFX.l5,hFX.k⟩
          have hGb:AtF X2 gb ⟨10,⟨#[]⟩,[],-1,tl,[m1.f0]⟩:=⟨D2,e2,D5,e5,a4,hFX.l2,hFX.a,hFX.l5,hFX.k⟩
          replace hS:=hS.below hX
          replace hA:=hA.below hX
          replace hB:=below_step hB hX
          clear a1 a2 a3 a4 a5 a6 za zb hk14 hX hD hFD
          refine wp_seq (wp_region_list (list_op (i:=0) rfl (op_loadS rfl rfl rfl rfl hS (fop rfl (by decide) (list_op (i:=1) rfl (op_mv (v:= .int .i64 fr) rfl rfl rfl rfl (fop rfl (by decide) (list_op (i:=2) rfl (op_mv (v:= .int .i64 tl) rfl rfl rfl rfl (fop rfl (by decide) (list_op (i:=3) rfl (op_is2 rfl rfl rfl rfl rfl fun i0 y0 r0 l0=>fop rfl (by decide) (list_op (i:=4) rfl (op_loadT rfl rfl rfl rfl (hA.below l0) fun v0 t0=>fop rfl (by decide) (list_op (i:=5) rfl (op_row1 rfl rfl rfl rfl t0 fun o0 z0 s0 m0=>fop rfl (by decide) (list_op (i:=6) rfl (op_btv (nm:=nDuring) (vs:=[fr,tl]) (l:=[t]) rfl rfl rfl rfl rfl (r0.below m0) s0 fun a0 g0=>fop rfl (by decide) (list_op (i:=7) rfl (op_loadF rfl rfl rfl rfl (hG0.below (below_step l0 m0)) fun b0 f0=>fop rfl (by decide) (list_op (i:=8) rfl (op_means (T:=T) (s:=s) (t:=⟨nDuring,[fr,tl],[t]⟩) rfl rfl rfl rfl rfl rfl g0 f0 (hT.below (below_step hB (below_step l0 m0))) (hS.below (below_step l0 m0)).2 (sm_1 (by decide) (by show 2≤2000000;omega) st) (by show nodes t+0+1≤500;omega) (ok_nDuring fr tl hv1 hv2 hq1 (by omega)) fun n0 k0=>fop rfl (by decide) (list_op (i:=9) rfl (op_mv (v:= .bool true) rfl rfl rfl rfl (fop rfl (by decide) (list_op (i:=10) rfl (wp_guard rfl (wants_y rfl rfl) fun o2 h2=>op_loadS h2 rfl rfl rfl (hS.below (below_step (below_step l0 m0) k0)) (fop rfl (by decide) (list_op (i:=11) rfl (wp_guard rfl (wants_y rfl rfl) fun o2 h2=>op_mv (v:= .int .i64 fr) h2 rfl rfl rfl (fop rfl (by decide) (list_op (i:=12) rfl (wp_guard rfl (wants_y rfl rfl) fun o2 h2=>op_is1 h2 rfl rfl rfl fun i10 y10 r10 l10=>fop rfl (by decide) (list_op (i:=13) rfl (wp_guard rfl (wants_y rfl rfl) fun o2 h2=>op_loadT h2 rfl rfl rfl (hA.below (below_step (below_step (below_step l0 m0) k0) l10)) fun v10 t10=>fop rfl (by decide) (list_op (i:=14) rfl (wp_guard rfl (wants_y rfl rfl) fun o2 h2=>op_row1 h2 rfl rfl rfl t10 fun o10 z10 s10 m10=>fop rfl (by decide) (list_op (i:=15) rfl (wp_guard rfl (wants_y rfl rfl) fun o2 h2=>op_btv (nm:=nSince) (vs:=[fr]) (l:=[t]) h2 rfl rfl rfl rfl (r10.below m10) s10 fun a10 g10=>fop rfl (by decide) (list_op (i:=16) rfl (wp_guard rfl (wants_y rfl rfl) fun o2 h2=>op_loadF h2 rfl rfl ea (hGa.below (below_step (below_step (below_step (below_step l0 m0) k0) l10) m10)) fun b10 f10=>fop rfl (by decide) (list_op (i:=17) rfl (wp_guard rfl (wants_y rfl rfl) fun o2 h2=>op_means (T:=T) (s:=s) (t:=⟨nSince,[fr],[t]⟩) h2 rfl rfl rfl rfl rfl g10 f10 (hT.below (below_step hB (below_step (below_step (below_step (below_step l0 m0) k0) l10) m10))) (hS.below (below_step (below_step (below_step (below_step l0 m0) k0) l10) m10)).2 (sm_1 (by decide) (by show 1≤2000000;omega) st) (by show nodes t+0+1≤500;omega) (ok_nSince fr hv1 hq1 (by omega)) fun n10 k10=>fop rfl (by decide) (list_op (i:=18) rfl (op_pickA (b:=true) (c:=true) rfl rfl rfl rfl (fun _=>rfl) (fop rfl (by decide) (list_op (i:=19) rfl (op_mv (v:= .bool true) rfl rfl rfl rfl (fop rfl (by decide) (list_op (i:=20) rfl (wp_guard rfl (wants_y rfl rfl) fun o2 h2=>op_loadS h2 rfl rfl rfl (hS.below (below_step (below_step (below_step (below_step (below_step l0 m0) k0) l10) m10) k10)) (fop rfl (by decide) (list_op (i:=21) rfl (wp_guard rfl (wants_y rfl rfl) fun o2 h2=>op_mv (v:= .int .i64 tl) h2 rfl rfl rfl (fop rfl (by decide) (list_op (i:=22) rfl (wp_guard rfl (wants_y rfl rfl) fun o2 h2=>op_is1 h2 rfl rfl rfl fun i20 y20 r20 l20=>fop rfl (by decide) (list_op (i:=23) rfl (wp_guard rfl (wants_y rfl rfl) fun o2 h2=>op_loadT h2 rfl rfl rfl (hA.below (below_step (below_step (below_step (below_step (below_step (below_step l0 m0) k0) l10) m10) k10) l20)) fun v20 t20=>fop rfl (by decide) (list_op (i:=24) rfl (wp_guard rfl (wants_y rfl rfl) fun o2 h2=>op_row1 h2 rfl rfl rfl t20 fun o20 z20 s20 m20=>fop rfl (by decide) (list_op (i:=25) rfl (wp_guard rfl (wants_y rfl rfl) fun o2 h2=>op_btv (nm:=nUntil) (vs:=[tl]) (l:=[t]) h2 rfl rfl rfl rfl (r20.below m20) s20 fun a20 g20=>fop rfl (by decide) (list_op (i:=26) rfl (wp_guard rfl (wants_y rfl rfl) fun o2 h2=>op_loadF h2 rfl rfl eb (hGb.below (below_step (below_step (below_step (below_step (below_step (below_step (below_step l0 m0) k0) l10) m10) k10) l20) m20)) fun b20 f20=>fop rfl (by decide) (list_op (i:=27) rfl (wp_guard rfl (wants_y rfl rfl) fun o2 h2=>op_means (T:=T) (s:=s) (t:=⟨nUntil,[tl],[t]⟩) h2 rfl rfl rfl rfl rfl g20 f20 (hT.below (below_step hB (below_step (below_step (below_step (below_step (below_step (below_step (below_step l0 m0) k0) l10) m10) k10) l20) m20))) (hS.below (below_step (below_step (below_step (below_step (below_step (below_step (below_step l0 m0) k0) l10) m10) k10) l20) m20)).2 (sm_1 (by decide) (by show 1≤2000000;omega) st) (by show nodes t+0+1≤500;omega) (ok_nUntil tl hv2 hq1 (by omega)) fun n20 k20=>fop rfl (by decide) (list_op (i:=28) rfl (op_pickA (b:=true) (c:=true) rfl rfl rfl rfl (fun _=>rfl) (fop rfl (by decide) (list_op (i:=29) rfl (op_asg (v:= .bool true) rfl rfl rfl rfl (fop rfl (by decide) (wp_nil (wp_ret ?_)))))))))))))))))))))))))))))))))))))))))))))))))))))))))))))))))))))))))))
          exact bodyPost_yes (show Tryz.f8.results= #[.tmp 10]from rfl) rfl rfl (below_step hB (below_step (below_step (below_step (below_step (below_step (below_step (below_step (below_step l0 m0) k0) l10) m10) k10) l20) m20) k20))
end
end
set_option maxRecDepth 100000
section
theorem sum_mem {α:Type} {f:α→Nat} {x:α}:∀{l:List α},x∈l→f x≤sumOf f l
 |y::r,h=>by
  rcases List.mem_cons.1 h with rfl | h
  ·exact Nat.le_add_right _ _
  ·exact Nat.le_trans (sum_mem h) (Nat.le_add_left _ _)
theorem sum_ge {α:Type} {f:α→Nat} (h:∀x,1≤f x):∀l:List α,l.length≤sumOf f l
 | []=>Nat.le_refl _
 |y::r=>by have:=sum_ge h r;have:=h y;simp only[List.length_cons,sumOf];omega
theorem two {l:List Value} (h:l.length=2):∃a b,l=[a,b]:=by
 match l,h with
 | [a,b],_=>exact ⟨a,b,rfl⟩
instance inhB:Inhabited ByteArray:=⟨⟨#[]⟩⟩
instance inh105:Inhabited S105:=⟨z105⟩
instance inh107:Inhabited S107:=⟨z107⟩
def szS (y:ByteArray):Nat:=y.size+1
def sz105 (p:S105):Nat:=p.f0.size+p.f1.size+1
def sz107 (p:S107):Nat:=p.f0.size+sumOf szS p.f1+1
section
variable {H:Type} {enc:TypeId×Value→H} {w:World} {base:Nat} {spare:Nat→Bool} {held:Bool}
theorem open_str {fuel:Nat} {cs:List Value} {x:DataW H×List MemPlace} (h:DataW.trod enc Tryz.prog w base spare held fuel 9 cs=some x):∃s:ByteArray,cs=[.string s]∧szS s≤Rows.uptoBulk x.1:=by
 obtain ⟨s,hs,rfl,_⟩:=DataW.trod_string Tryz.underlying9 h
 refine ⟨s,hs,?_⟩
 have es:s.data.toList.length=s.size:=rfl
 unfold szS
 simp only[Rows.uptoBulk]
 omega
theorem open_strs {fuel:Nat} {cs:List Value} {x:DataW H×List MemPlace} (h:DataW.trod enc Tryz.prog w base spare held fuel 22 cs=some x):∃A xs c,cs=[.slice A xs.length c]∧xs.length≤c∧Kd.string.C w A xs.length xs∧sumOf szS xs+1≤Rows.uptoBulk x.1:=by
 obtain ⟨A,xs,c,ds,h1,h2,h3,h4,h5,h6⟩:=opened (kd:=Kd.string) (Q:=fun s d=>szS s≤Rows.uptoBulk d) Tryz.underlying22 (by kernel_rfl) h (fun n cs' y _ hy=>by
  obtain ⟨s,rfl,hb⟩:=open_str hy
  exact ⟨s,rfl,hb⟩)
 exact ⟨A,xs,c,h1,h2,h3,bulk_slice szS h4 h5 h6⟩
theorem open_con {fuel:Nat} {cs:List Value} {x:DataW H×List MemPlace} (h:DataW.trod enc Tryz.prog w base spare held fuel 105 cs=some x):∃p:S105,cs=[.string p.f0,.string p.f1]∧sz105 p≤Rows.uptoBulk x.1:=by
 obtain ⟨xs,n,rfl,rfl,hl,hlen,hf⟩:=DataW.trod_struct Tryz.underlying105 h
 obtain ⟨a,b,rfl⟩:=two (hl.trans (by kernel_rfl))
 match xs,hlen with
 | [y0,y1],_ =>
  have g0:DataW.trod enc Tryz.prog w base spare held n 9 [a]=some y0:=hf 0 _ rfl
  have g1:DataW.trod enc Tryz.prog w base spare held n 9 [b]=some y1:=hf 1 _ rfl
  obtain ⟨s,hs,b0⟩:=open_str g0
  obtain ⟨t,ht,b1⟩:=open_str g1
  injection hs with hs
  injection ht with ht
  subst hs
  subst ht
  refine ⟨⟨s,t⟩,rfl,?_⟩
  unfold szS at b0 b1
  unfold sz105
  simp only[List.map_cons,List.map_nil,Rows.uptoBulk,Rows.uptoBulkAll]
  omega
theorem open_prd {fuel:Nat} {cs:List Value} {x:DataW H×List MemPlace} (h:DataW.trod enc Tryz.prog w base spare held fuel 107 cs=some x):∃(p:S107) (A:Option Addr) (c:Nat),cs=[.string p.f0,.slice A p.f1.length c]∧p.f1.length≤c∧Kd.string.C w A p.f1.length p.f1∧sz107 p≤Rows.uptoBulk x.1:=by
 obtain ⟨xs,n,rfl,rfl,hl,hlen,hf⟩:=DataW.trod_struct Tryz.underlying107 h
 obtain ⟨a,b,rfl⟩:=two (hl.trans (by kernel_rfl))
 match xs,hlen with
 | [y0,y1],_ =>
  have g0:DataW.trod enc Tryz.prog w base spare held n 9 [a]=some y0:=hf 0 _ rfl
  have g1:DataW.trod enc Tryz.prog w base spare held n 22 [b]=some y1:=hf 1 _ rfl
  obtain ⟨s,hs,b0⟩:=open_str g0
  obtain ⟨A,ts,c,ht,l1,r1,b1⟩:=open_strs g1
  injection hs with hs
  injection ht with ht
  subst hs
  subst ht
  refine ⟨⟨s,ts⟩,A,c,rfl,l1,r1,?_⟩
  unfold szS at b0
  unfold sz107
  simp only[List.map_cons,List.map_nil,Rows.uptoBulk,Rows.uptoBulkAll]
  omega
theorem open_sig {fuel:Nat} {cs:List Value} {x:DataW H×List MemPlace} (h:DataW.trod enc Tryz.prog w base spare held fuel 26 cs=some x):∃s:Sg,cs=[.slice s.A0 s.ss.length s.c0,.slice s.A1 s.cs.length s.c1,.slice s.A2 s.ps.length s.c2]∧(Rows.uptoBulk x.1≤1048576→s.C w):=by
 obtain ⟨xs,n,rfl,rfl,hl,hlen,hf⟩:=DataW.trod_struct Tryz.underlying26 h
 obtain ⟨a,b,c,rfl⟩:=three (hl.trans (by kernel_rfl))
 match xs,hlen with
 | [y0,y1,y2],_ =>
  have g0:DataW.trod enc Tryz.prog w base spare held n 22 [a]=some y0:=hf 0 _ rfl
  have g1:DataW.trod enc Tryz.prog w base spare held n 23 [b]=some y1:=hf 1 _ rfl
  have g2:DataW.trod enc Tryz.prog w base spare held n 24 [c]=some y2:=hf 2 _ rfl
  obtain ⟨A0,ss,c0,e0,l0,r0,b0⟩:=open_strs g0
  obtain ⟨A1,cs1,c1,d1,e1,l1,r1,p1,q1,s1⟩:=opened (kd:=k105) (Q:=fun p d=>sz105 p≤Rows.uptoBulk d) Tryz.underlying23 (by kernel_rfl) g1 (fun n cs' y _ hy=>by
   obtain ⟨p,rfl,hb⟩:=open_con hy
   exact ⟨p,k105_mk w p,hb⟩)
  have b1:=bulk_slice sz105 p1 q1 s1
  obtain ⟨A2,ps,c2,d2,e2,l2,r2,p2,q2,s2⟩:=opened (kd:=k107) (Q:=fun p d=>sz107 p≤Rows.uptoBulk d) Tryz.underlying24 (by kernel_rfl) g2 (fun n cs' y _ hy=>by
   obtain ⟨p,A,c,rfl,hl,hC,hb⟩:=open_prd hy
   exact ⟨p,k107_mk w p hl hC,hb⟩)
  have b2:=bulk_slice sz107 p2 q2 s2
  injection e0 with e0
  injection e1 with e1
  injection e2 with e2
  subst e0
  subst e1
  subst e2
  refine ⟨⟨A0,c0,ss,A1,c1,cs1,A2,c2,ps⟩,rfl,fun hk=> ?_⟩
  simp only[List.map_cons,List.map_nil,Rows.uptoBulk,Rows.uptoBulkAll]at hk
  have n0:=sum_ge (f:=szS) (fun x=>by unfold szS;omega) ss
  have n1:=sum_ge (f:=sz105) (fun x=>by unfold sz105;omega) cs1
  have n2:=sum_ge (f:=sz107) (fun x=>by unfold sz107;omega) ps
  refine ⟨r0,l0,r1,l1,r2,l2,fun y hy=> ?_,fun y hy=> ?_,fun y hy=> ?_,by show ss.length≤2000000;omega,by show cs1.length≤2000000;omega,by show ps.length≤2000000;omega⟩
  ·have:szS y≤sumOf szS ss:=sum_mem hy
   have e:szS y=y.size+1:=rfl
   omega
  ·have:sz105 y≤sumOf sz105 cs1:=sum_mem hy
   have e:sz105 y=y.f0.size+y.f1.size+1:=rfl
   omega
  ·have h1:sz107 y≤sumOf sz107 ps:=sum_mem hy
   have e:sz107 y=y.f0.size+sumOf szS y.f1+1:=rfl
   have h2:=sum_ge (f:=szS) (fun x=>by unfold szS;omega) y.f1
   refine ⟨by omega,by omega,fun z hz=> ?_⟩
   have h3:=sum_mem (f:=szS) hz
   have e:szS z=z.size+1:=rfl
   omega
end
end
end Go.Proofs.YtcfjomnihhdpaaaGreatDoor.A
namespace Go.Proofs.YtcfjomnihhdpaaaGreatDoor
open Go
set_option maxRecDepth 100000
theorem seatTie1:Tryz.prog.laidByTextLater [("math/bits.deBruijn32tab",Rows.laid_math_bits_deBruijn32tab),("math/bits.deBruijn64tab",Rows.laid_math_bits_deBruijn64tab),("internal/strconv.uint64pow10",Rows.laid_internal_strconv_uint64pow10),("unicode/utf8.acceptRanges",Rows.laid_unicode_utf8_acceptRanges)] [.data,.data,.data,.data] true :=
 Program.laidByTextLater_by_one 34 8 65 (by kernel_rfl) (by kernel_rfl) (by kernel_rfl) (by kernel_rfl) (by kernel_rfl) (by kernel_rfl) (fun _ _=>by kernel_rfl)
theorem pin_laid_strconv_isGraphic:Tryz.pinned.checked.prog.pinnedFits "strconv.isGraphic" =true:=by kernel_rfl
theorem pin_laid_strconv_isNotPrint16:Tryz.pinned.checked.prog.pinnedFits "strconv.isNotPrint16" =true:=by kernel_rfl
theorem pin_laid_strconv_isNotPrint32:Tryz.pinned.checked.prog.pinnedFits "strconv.isNotPrint32" =true:=by kernel_rfl
theorem pin_laid_strconv_isPrint16:Tryz.pinned.checked.prog.pinnedFits "strconv.isPrint16" =true:=by kernel_rfl
theorem pin_laid_strconv_isPrint32:Tryz.pinned.checked.prog.pinnedFits "strconv.isPrint32" =true:=by kernel_rfl
theorem pin_laid_unicode_utf8_first:Tryz.pinned.checked.prog.pinnedFits "unicode/utf8.first" =true:=by kernel_rfl
theorem noOwnUnsafe:Tryz.pinned.checked.prog.headLifts.contains "ownunsafe" =false:=by kernel_rfl
theorem fits1:Tryz.pinned.checked.prog.listedFits [("math/bits.deBruijn32tab",Rows.laid_math_bits_deBruijn32tab),("math/bits.deBruijn64tab",Rows.laid_math_bits_deBruijn64tab),("internal/strconv.uint64pow10",Rows.laid_internal_strconv_uint64pow10),("unicode/utf8.acceptRanges",Rows.laid_unicode_utf8_acceptRanges),("strconv.isGraphic",Rows.laid_strconv_isGraphic),("strconv.isNotPrint16",Rows.laid_strconv_isNotPrint16),("strconv.isNotPrint32",Rows.laid_strconv_isNotPrint32),("strconv.isPrint16",Rows.laid_strconv_isPrint16),("strconv.isPrint32",Rows.laid_strconv_isPrint32),("unicode/utf8.first",Rows.laid_unicode_utf8_first)]=true:=by
 unfold Program.listedFits
 rw[noOwnUnsafe]
 kernel_rfl
theorem tie:Tryz.prog.laidByTextLater [("math/bits.deBruijn32tab",Rows.laid_math_bits_deBruijn32tab),("math/bits.deBruijn64tab",Rows.laid_math_bits_deBruijn64tab),("internal/strconv.uint64pow10",Rows.laid_internal_strconv_uint64pow10),("unicode/utf8.acceptRanges",Rows.laid_unicode_utf8_acceptRanges)] [.data,.data,.data,.data] true :=
 Program.laidByTextLater.sub seatTie1 ["math/bits.deBruijn32tab", "math/bits.deBruijn64tab", "internal/strconv.uint64pow10", "unicode/utf8.acceptRanges"] (by kernel_rfl) (by kernel_rfl)
theorem semanticsComposedUpto_row_tie:Rows.semanticsComposedUptoRow.laidByTextAt .later Tryz.pinned [.data,.data,.data,.data,.pinned,.pinned,.pinned,.pinned,.pinned,.pinned] true :=
 OpenClaim.laidByTextAt_pinned rfl rfl tie rfl rfl rfl rfl (fun y hy _e=>by
  simp only[Rows.semanticsComposedUptoRow,List.zip_cons_cons,List.zip_nil_right,List.mem_cons,List.mem_nil_iff,or_false]at hy
  rcases hy with rfl | rfl | rfl | rfl | rfl | rfl | rfl | rfl | rfl | rfl
  ·cases _e
  ·cases _e
  ·cases _e
  ·cases _e
  ·exact ⟨pin_laid_strconv_isGraphic,by kernel_rfl⟩
  ·exact ⟨pin_laid_strconv_isNotPrint16,by kernel_rfl⟩
  ·exact ⟨pin_laid_strconv_isNotPrint32,by kernel_rfl⟩
  ·exact ⟨pin_laid_strconv_isPrint16,by kernel_rfl⟩
  ·exact ⟨pin_laid_strconv_isPrint32,by kernel_rfl⟩
  ·exact ⟨pin_laid_unicode_utf8_first,by kernel_rfl⟩) fits1
end Go.Proofs.YtcfjomnihhdpaaaGreatDoor
