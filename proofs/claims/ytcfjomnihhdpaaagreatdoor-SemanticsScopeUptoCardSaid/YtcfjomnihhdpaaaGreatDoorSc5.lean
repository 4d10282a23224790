/-
  A part of the proof: Q36, Q38, Tie.
-/
import Derived.Test.YtcfjomnihhdpaaaGreatDoorRows
import Derived.LaidByTextLater
import Derived.SevenTiedAt
import Derived.LaidSub
import Derived.LaidOnce
import Derived.Test.YtcfjomnihhdpaaaGreatDoorSc3
import Derived.Test.YtcfjomnihhdpaaaGreatDoorSc4
namespace Go.Proofs.YtcfjomnihhdpaaaGreatDoor.A
open Go.RowKit Go.Proofs.YtcfjomnihhdpaaaGreatDoorW.PrintWords Go.Proofs.YtcfjomnihhdpaaaGreatDoorW.PrintLast Go.Proofs.YtcfjomnihhdpaaaGreatDoorW.PrintMore
set_option linter.unusedVariables false
set_option linter.unusedSimpArgs false
section
attribute [local go_sem] Oper.semAt_some
theorem tS_sm {f name:ByteArray} {vp:S30} (hf:f.size≤2000000) (hn:name.size≤2000000) (hv:Sm vp):Sm (tS f name vp):=by
 have h0:Sm ⟨name,[],[]⟩:=(Sm.eq _).2 ⟨hn,Nat.zero_le _,Nat.zero_le _,by simp[SmL]⟩
 have h1:Sm (npN name):=(Sm.eq _).2 ⟨by show nName.size≤2000000;decide,Nat.zero_le _,by show 1≤2000000;omega,by simp only[npN,SmL];exact ⟨h0,trivial⟩⟩
 exact (Sm.eq _).2 ⟨hf,Nat.zero_le _,by show 2≤2000000;omega,by simp only[tS,SmL];exact ⟨h1,hv,trivial⟩⟩
theorem tS_nodes {f name:ByteArray} {vp:S30} (h:nodes vp≤400):nodes (tS f name vp)≤500:=by
 show 1+0+1+(nodes vp+0)+1≤500
 omega
section
variable {ops:Array Oper} {Q:Exit→Act→World→Prop} {i:Nat} {o:Oper} {J:Act→World→Prop} {a:Act} {w:World}
theorem op_st30v {t:S30} {k k2:Tmp} {g:Nat} {v:Value} {w0:World} (hi:ops[i]? =some o) (hg:o.guard=none) (hd:o.dst=none) (ho:o.op= .store 30 (.tmp k) (.tmp k2)) (ha:a.tmps[k]?.getD undef= .pointer (some ⟨g,0,none⟩)) (ha2:a.tmps[k2]?.getD undef=v) (hv:IsT w0 t v) (hB:Below w0.heap.size w0 w) (hge:w0.heap.size≤g) (hz:w.heap[g]? =some (.cells #[.string ⟨#[]⟩,.slice none 0 0,.slice none 0 0] 30 (0,0)))
  (h:∀w',AtT w' g t→Below w0.heap.size w0 w' →J a w'):wpOp Tryz.prog ops Q i J a w:=by
 obtain ⟨A1,c1,A2,c2,rfl,hT⟩:=hv
 exact op_st30 hi hg hd ho ha ha2 hz fun w' h1 h2 h3=>h w' ⟨A1,c1,A2,c2,h1,hT.below (hB.trans (h3 _ hge))⟩ (hB.trans (h3 _ hge))
end
section
attribute [local irreducible] wpList
set_option maxHeartbeats 4000000 in
set_option maxRecDepth 100000 in
theorem large_v {t:S30} {v:Value} {w:World} (n:Int) (h0:0≤n) (h1:n≤1000) (hm:nodes t≤2000000) (h:IsT w t v):Calls Tryz.prog 15 #[v,.int .i64 n] w fun e w' =>∃b,e= .returned (.bool b)∧(b=false→(nodes t:Int)≤n)∧Below w.heap.size w w' :=by
 obtain ⟨A1,c1,A2,c2,rfl,hT⟩:=h
 exact large_calls t n h0 h1 hm w A1 c1 A2 c2 hT
set_option maxHeartbeats 4000000 in
set_option maxRecDepth 100000 in
theorem scope_walk (T:Lib.PrintTabs) (w:World) (hT:Tabs T w) (s:Sg) (name:ByteArray) (vp:S30) (A1:Option Addr) (c1:Nat) (A2:Option Addr) (c2:Nat) (hC:s.C w) (hnm:name.size≤2000000) (tv:TreeV w vp A1 c1 A2 c2) (svp:Sm vp) (nvp:nodes vp≤2000000) :
  Calls Tryz.prog 11 #[sgV s,.string name,.agg #[.string vp.f0,.slice A1 vp.f1.length c1,.slice A2 vp.f2.length c2]] w fun e w' =>e= .returned (.bool true)∧Below w.heap.size w w' :=by
 obtain ⟨c,hc⟩:∃c,codeOf (senP s (tS nAssert name vp))=c:=⟨_,rfl⟩
 obtain ⟨d,hd⟩:∃d,codeOf (senP s (tS nMust name vp))=d:=⟨_,rfl⟩
 refine calls_frN 89 (fun j=>match j with | 0=>sgV s | 1=> .string name | 2=> .agg #[.string vp.f0,.slice A1 vp.f1.length c1,.slice A2 vp.f2.length c2] | _=>undef) Tryz.func11 (show Tryz.f11.body=some _ from rfl) (by kernel_rfl) ?_
 refine wp_seq (wp_region_list (list_op (i:=0) rfl (op_box26 rfl rfl rfl rfl hC fun w1 hS b1 s1=>fop rfl (by decide) (list_op (i:=1) rfl (op_box30v rfl rfl rfl rfl (IsT.below ⟨A1,c1,A2,c2,rfl,tv⟩ b1) fun w2 hA b2 s2=>fop rfl (by decide) (list_op (i:=2) rfl (op_asgc rfl rfl rfl (fop rfl (by decide) (wp_nil ?_)))))))))
 rw[s1]at hA ⊢
 replace hS:=hS.below b2
 have hB:=below_step b1 b2
 clear b1 b2 s1 s2 tv hC
 refine wp_seq (wp_seq (wp_region_list (list_op (i:=0) rfl (op_boolC (vs:= #[]) (P:=fun b=>b=true) rfl rfl (enters_of Tryz.func13 (by kernel_rfl) rfl) rfl (by simp only[List.map_toArray,List.map_nil]) (yes_ (awake_calls T _ (hT.below hB))) fun b wA eb hAw=>fop rfl (by decide) (list_op (i:=1) rfl (op_notb rfl rfl rfl rfl (fop rfl (by decide) (wp_nil (wp_cond rfl ?_)))))))))
 subst eb
 refine wp_skip ?_
 replace hS:=hS.below hAw
 replace hA:=hA.below hAw
 replace hB:=below_step hB hAw
 clear hAw
 refine wp_seq (wp_seq (wp_region_list (list_op (i:=0) rfl (op_loadS rfl rfl rfl rfl hS (fop rfl (by decide) (list_op (i:=1) rfl (op_boolC (vs:= #[sgV s]) (P:=fun _=>True) rfl rfl (enters_of Tryz.func14 (by kernel_rfl) rfl) rfl (by simp only[List.map_toArray,List.map_cons,List.map_nil];rfl) (long_calls s wA) fun b wL _ hL=>fop rfl (by decide) (list_op (i:=2) rfl (op_mv (v:= .bool b) rfl rfl rfl rfl (fop rfl (by decide) ?_))))))))))
 replace hS:=hS.below hL
 replace hA:=hA.below hL
 replace hB:=below_step hB hL
 clear hL
 cases b with
 |true =>
  refine (list_op (i:=3) rfl (op_skip rfl (wants_n rfl rfl) (fop rfl (by decide) (list_op (i:=4) rfl (op_skip rfl (wants_n rfl rfl) (fop rfl (by decide) (list_op (i:=5) rfl (op_pickT (b:=true) (c:=false) rfl rfl rfl rfl (fun h=>by cases h) (fop rfl (by decide) (list_op (i:=6) rfl (op_mv (v:= .bool true) rfl rfl rfl rfl (fop rfl (by decide) (list_op (i:=7) rfl (op_skip rfl (wants_n rfl rfl) (fop rfl (by decide) (list_op (i:=8) rfl (op_skip rfl (wants_n rfl rfl) (fop rfl (by decide) (list_op (i:=9) rfl (op_skip rfl (wants_n rfl rfl) (fop rfl (by decide) (list_op (i:=10) rfl (op_pickT (b:=true) (c:=false) rfl rfl rfl rfl (fun h=>by cases h) (fop rfl (by decide) (wp_nil (wp_cond (t:=true) rfl ?_))))))))))))))))))))))))))
  refine wp_seq (wp_region_list (list_op (i:=0) rfl (op_asgc rfl rfl rfl (fop rfl (by decide) (wp_nil (wp_ret ?_))))))
  exact bodyPost_yes (show Tryz.f11.results= #[.tmp 6]from rfl) rfl rfl hB
 |false =>
  refine (list_op (i:=3) rfl (wp_guard rfl (wants_y rfl rfl) fun o2 h2=>op_loadT h2 rfl rfl rfl hA fun v3 hv3=>fop rfl (by decide) (list_op (i:=4) rfl (wp_guard rfl (wants_y rfl rfl) fun o2 h2=>op_boolC (vs:= #[v3,.int .i64 20]) (P:=fun b=>b=false→(nodes vp:Int)≤20) h2 rfl (enters_of Tryz.func15 (by kernel_rfl) rfl) rfl (by simp only[List.map_toArray,List.map_cons,List.map_nil];rfl) (large_v 20 (by decide) (by decide) nvp hv3) fun b2 wM hl hM=>fop rfl (by decide) (list_op (i:=5) rfl (op_pickT (b:=false) (c:=b2) rfl rfl rfl rfl (fun _=>rfl) (fop rfl (by decide) (list_op (i:=6) rfl (op_mv (v:= .bool b2) rfl rfl rfl rfl (fop rfl (by decide) ?_))))))))))
  replace hS:=hS.below hM
  replace hA:=hA.below hM
  replace hB:=below_step hB hM
  clear hM
  cases b2 with
  |true =>
   refine (list_op (i:=7) rfl (op_skip rfl (wants_n rfl rfl) (fop rfl (by decide) (list_op (i:=8) rfl (op_skip rfl (wants_n rfl rfl) (fop rfl (by decide) (list_op (i:=9) rfl (op_skip rfl (wants_n rfl rfl) (fop rfl (by decide) (list_op (i:=10) rfl (op_pickT (b:=true) (c:=false) rfl rfl rfl rfl (fun h=>by cases h) (fop rfl (by decide) (wp_nil (wp_cond (t:=true) rfl ?_))))))))))))))
   refine wp_seq (wp_region_list (list_op (i:=0) rfl (op_asgc rfl rfl rfl (fop rfl (by decide) (wp_nil (wp_ret ?_))))))
   exact bodyPost_yes (show Tryz.f11.results= #[.tmp 6]from rfl) rfl rfl hB
  |false =>
   have hnv:=hl rfl
   clear hl
   refine (list_op (i:=7) rfl (wp_guard rfl (wants_y rfl rfl) fun o2 h2=>op_mv (v:= .string name) h2 rfl rfl rfl (fop rfl (by decide) (list_op (i:=8) rfl (wp_guard rfl (wants_y rfl rfl) fun o2 h2=>op_len (x:=name) h2 rfl rfl rfl (fop rfl (by decide) (list_op (i:=9) rfl (wp_guard rfl (wants_y rfl rfl) fun o2 h2=>op_gtc (n:=name.size) (m:=50) h2 rfl rfl rfl (fop rfl (by decide) (list_op (i:=10) rfl (op_pickT (b:=false) (c:=decide (50<(name.size:Int))) rfl rfl rfl rfl (fun _=>rfl) (fop rfl (by decide) (wp_nil (wp_cond (t:=decide (50<(name.size:Int))) rfl ?_))))))))))))))
   cases decide (50<(name.size:Int))with
   |true =>
    refine wp_seq (wp_region_list (list_op (i:=0) rfl (op_asgc rfl rfl rfl (fop rfl (by decide) (wp_nil (wp_ret ?_))))))
    exact bodyPost_yes (show Tryz.f11.results= #[.tmp 6]from rfl) rfl rfl hB
   |false =>
    refine wp_skip ?_
    refine wp_seq (wp_region_list (list_op (i:=0) rfl (op_mv (v:= .string name) rfl rfl rfl rfl (fop rfl (by decide) (list_op (i:=1) rfl (op_treeN (nm:=name) (l:=[]) rfl rfl rfl (by simp only[List.map_toArray,List.map_cons,List.map_nil];rfl) (IsL.nil _) fun v1 u1 h1 k1=>fop rfl (by decide) (list_op (i:=2) rfl (op_row1 rfl rfl rfl rfl h1 fun v2 u2 h2 k2=>fop rfl (by decide) (list_op (i:=3) rfl (op_tree (nm:=nName) rfl rfl rfl rfl h2 fun v3 u3 h3 k3=>fop rfl (by decide) (list_op (i:=4) rfl (op_new30 rfl rfl rfl (fop rfl (by decide) (list_op (i:=5) rfl (op_st30v (w0:=u3) rfl rfl rfl rfl rfl rfl h3 (below_alloc (Below.refl _ _) _) (Nat.le_refl _) (blk_new _ _) fun u5 hN k5=>(wp_nil ?_))))))))))))))))
    have hk:=below_step (below_step (below_step k1 k2) k3) k5
    replace hS:=hS.below hk
    replace hA:=hA.below hk
    replace hB:=below_step hB hk
    clear hk k1 k2 k3 k5 h1 h2 h3
    generalize u5=U at *
    have b0:∀{V},Below U.heap.size U V→Below w.heap.size w V:=fun h=>below_step hB h
    have bw:∀{V},Below U.drew.heap.size U.drew V→Below U.heap.size U V:=fun hB=>below_step (below_drew (Below.refl _ _)) hB
    refine wp_seq (region_x37 5 9 10 89 [.is (sgV s),.isT (npN name),.isT vp,.isL [npN name,vp],.isT (tS nAssert name vp)] (fun _=> .int .i64 c) (fun j=>j == 8) [30,31,32,33,34,35,29,36,37,8,999,9] _ U (senP s (tS nAssert name vp)) [.int .i64 c] (by decide) (by decide) (by kernel_rfl) (by kernel_rfl) (by kernel_rfl) (by kernel_rfl) (by kernel_rfl) rfl ⟨rfl,by decide⟩ ⟨
     fun q V J hB hq h hi=>op_loadS hi rfl rfl rfl (hS.below (bw hB)) (h _ _ rfl (.refl _ _)),
     fun q V J hB hq h hi=>op_loadT hi rfl rfl rfl (hN.below (bw hB)) fun u hu=>h _ _ hu (.refl _ _),
     fun q V J hB hq h hi=>op_loadT hi rfl rfl rfl (hA.below (bw hB)) fun u hu=>h _ _ hu (.refl _ _),
     fun q V J hB hq h hi=>op_row2 hi rfl rfl rfl rfl (hq 1 rfl) (hq 2 rfl) h,
     fun q V J hB hq h hi=>op_tree (nm:=nAssert) hi rfl rfl rfl (hq 3 rfl) h,trivial⟩
     (fun o x w J ho hB hx h=>by injection ho with ho;subst ho;exact op_sentC (T:=T) (s:=s) (t:=tS nAssert name vp) rfl rfl rfl (hx 0 (by decide) rfl) rfl hc (hx 4 (by decide) rfl) (hT.below (b0 (bw hB))) (hS.below (bw hB)).2 (tS_sm (by decide) hnm svp) (tS_nodes (by omega)) h)
     (fun o x w J ho h=>by injection ho with ho;subst ho;exact op_mv rfl rfl rfl rfl h)
     (fun o x w J u cs' ho e h=>by injection ho with ho;subst ho;exact op_ext rfl rfl rfl e rfl h)
     (fun o x w J ho h=>by injection ho with ho;subst ho;exact op_new37 rfl rfl rfl h)
     (fun o x w J g ho e hz hF h=>by injection ho with ho;subst ho;exact op_store37 rfl rfl rfl rfl e rfl hz hF fun w' h37 hb _=>h w' h37 hb)
     (fun i o x w J h0 ha hL ho hd h=>by
      by_cases e1:i=8
      ·subst e1
       injection ho with ho;subst ho;obtain ⟨u,e⟩:∃u,x 6= .tuple (u::[Value.int .i64 c]).toArray:=hd 6 rfl (by decide)
       exact op_ext rfl rfl rfl e rfl h
      ·by_cases e2:i=11
       ·subst e2
        injection ho with ho;subst ho;have e:x 8= .int .i64 c:=hd 8 rfl (by decide)
        exact op_asg rfl rfl rfl e h
       ·rw[Array.getElem?_eq_none (by simp;omega)]at ho
        cases ho) ?_)
    intro x V h37 hp hBV
    have e11:=hp 11 (by decide) (by decide) (by decide) (by decide)
    replace hS:=hS.below hBV
    replace hA:=hA.below hBV
    replace hN:=hN.below hBV
    replace hB:=below_step hB hBV
    clear hBV bw b0
    have b0:∀{V1},Below V.heap.size V V1→Below w.heap.size w V1:=fun h=>below_step hB h
    have bw:∀{V1},Below V.drew.heap.size V.drew V1→Below V.heap.size V V1:=fun hB=>below_step (below_drew (Below.refl _ _)) hB
    cases hq0:senP s (tS nAssert name vp)with
    |ok m =>
     obtain rfl:0=c:=by rw[←hc,hq0];rfl
     rw[hq0]at h37
     obtain ⟨g8,eg,hF⟩:=h37
     replace hF:AtF V g8 m.f0:=hF
     have hY:=scope_yes hq0
     refine wp_seq (wp_seq (wp_region_list (list_op (i:=0) rfl (op_mv (v:= .int .i64 0) rfl rfl rfl e11 (fop rfl (by decide) (list_op (i:=1) rfl (op_nec (n:=0) (m:=0) (b:=false) rfl rfl rfl rfl rfl (fop rfl (by decide) (wp_nil (wp_cond (t:=false) rfl ?_))))))))))
     refine wp_skip ?_
     refine wp_seq (region_kn0 89 (.is (sgV s):: .isT (npN name):: .isT vp:: .isL [npN name,vp]:: .isT (tS nMust name vp):: .fm m.f0:: .fs [m.f0]:: .fm (opF 11 [m.f0]):: .is (.bool true):: .is (.bool true):: .is (sgV s):: .isT (npN name):: .isT vp:: .isL [npN name,vp]:: .isT (tS nMustNot name vp):: .fm m.f0:: .fs [m.f0]:: .fm (opF 4 [m.f0]):: .fs [(opF 4 [m.f0])]:: .fm (opF 11 [(opF 4 [m.f0])]):: .is (.bool true):: .is (.bool true):: .is (.bool true):: .is (sgV s):: .isT (npN name):: .isT vp:: .isL [npN name,vp]:: .isT (tS nMay name vp):: .fm m.f0:: .fs [m.f0]:: .fm (opF 12 [m.f0]):: .is (.bool true):: .is (.bool true):: .is (.bool true)::[]) [56,57,58,59,60,61,62,63,64,65,66,67,68,69,70,71,72,73,74,75,76,77,78,79,80,81,82,83,84,85,86,87,88,6] _ V (by kernel_rfl) (by kernel_rfl) ⟨
      fun q V J hB hq h hi=>op_loadS hi rfl rfl rfl (hS.below (bw hB)) (h _ _ rfl (.refl _ _)),
      fun q V J hB hq h hi=>op_loadT hi rfl rfl rfl (hN.below (bw hB)) fun u hu=>h _ _ hu (.refl _ _),
      fun q V J hB hq h hi=>op_loadT hi rfl rfl rfl (hA.below (bw hB)) fun u hu=>h _ _ hu (.refl _ _),
      fun q V J hB hq h hi=>op_row2 hi rfl rfl rfl rfl (hq 1 rfl) (hq 2 rfl) h,
      fun q V J hB hq h hi=>op_tree (nm:=nMust) hi rfl rfl rfl (hq 3 rfl) h,
      fun q V J hB hq h hi=>op_loadF hi rfl rfl eg (hF.below (bw hB)) fun u hu=>h _ _ hu (.refl _ _),
      fun q V J hB hq h hi=>op_fs1 hi rfl rfl rfl (hq 5 rfl) h,
      fun q V J hB hq h hi=>op_join (op:=11) hi rfl rfl rfl (hq 6 rfl) h,
      fun q V J hB hq h hi=>op_means (T:=T) (s:=s) (t:=tS nMust name vp) (F:=(opF 11 [m.f0])) hi rfl rfl (hq 0 rfl) rfl rfl (hq 4 rfl) (hq 7 rfl) (hT.below (b0 (bw hB))) (hS.below (bw hB)).2 (tS_sm (by decide) hnm svp) (tS_nodes (by omega)) hY.1 fun w1 hb=>h _ _ rfl hb,
      fun q V J hB hq h hi=>op_mv hi rfl rfl (hq 8 rfl) (h _ _ rfl (.refl _ _)),
      fun q V J hB hq h hi=>wp_guard hi (wants_y rfl (congrArg some (hq 9 rfl))) fun o2 h2=>op_loadS h2 rfl rfl rfl (hS.below (bw hB)) (h _ _ rfl (.refl _ _)),
      fun q V J hB hq h hi=>wp_guard hi (wants_y rfl (congrArg some (hq 9 rfl))) fun o2 h2=>op_loadT h2 rfl rfl rfl (hN.below (bw hB)) fun u hu=>h _ _ hu (.refl _ _),
      fun q V J hB hq h hi=>wp_guard hi (wants_y rfl (congrArg some (hq 9 rfl))) fun o2 h2=>op_loadT h2 rfl rfl rfl (hA.below (bw hB)) fun u hu=>h _ _ hu (.refl _ _),
      fun q V J hB hq h hi=>wp_guard hi (wants_y rfl (congrArg some (hq 9 rfl))) fun o2 h2=>op_row2 h2 rfl rfl rfl rfl (hq 11 rfl) (hq 12 rfl) h,
      fun q V J hB hq h hi=>wp_guard hi (wants_y rfl (congrArg some (hq 9 rfl))) fun o2 h2=>op_tree (nm:=nMustNot) h2 rfl rfl rfl (hq 13 rfl) h,
      fun q V J hB hq h hi=>wp_guard hi (wants_y rfl (congrArg some (hq 9 rfl))) fun o2 h2=>op_loadF h2 rfl rfl eg (hF.below (bw hB)) fun u hu=>h _ _ hu (.refl _ _),
      fun q V J hB hq h hi=>wp_guard hi (wants_y rfl (congrArg some (hq 9 rfl))) fun o2 h2=>op_fs1 h2 rfl rfl rfl (hq 15 rfl) h,
      fun q V J hB hq h hi=>wp_guard hi (wants_y rfl (congrArg some (hq 9 rfl))) fun o2 h2=>op_join (op:=4) h2 rfl rfl rfl (hq 16 rfl) h,
      fun q V J hB hq h hi=>wp_guard hi (wants_y rfl (congrArg some (hq 9 rfl))) fun o2 h2=>op_fs1 h2 rfl rfl rfl (hq 17 rfl) h,
      fun q V J hB hq h hi=>wp_guard hi (wants_y rfl (congrArg some (hq 9 rfl))) fun o2 h2=>op_join (op:=11) h2 rfl rfl rfl (hq 18 rfl) h,
      fun q V J hB hq h hi=>wp_guard hi (wants_y rfl (congrArg some (hq 9 rfl))) fun o2 h2=>op_means (T:=T) (s:=s) (t:=tS nMustNot name vp) (F:=(opF 11 [(opF 4 [m.f0])])) h2 rfl rfl (hq 10 rfl) rfl rfl (hq 14 rfl) (hq 19 rfl) (hT.below (b0 (bw hB))) (hS.below (bw hB)).2 (tS_sm (by decide) hnm svp) (tS_nodes (by omega)) hY.2.1 fun w1 hb=>h _ _ rfl hb,
      fun q V J hB hq h hi=>op_pickF hi rfl rfl (hq 9 rfl) (hq 20 rfl) (h _ _ rfl (.refl _ _)),
      fun q V J hB hq h hi=>op_mv hi rfl rfl (hq 21 rfl) (h _ _ rfl (.refl _ _)),
      fun q V J hB hq h hi=>wp_guard hi (wants_y rfl (congrArg some (hq 22 rfl))) fun o2 h2=>op_loadS h2 rfl rfl rfl (hS.below (bw hB)) (h _ _ rfl (.refl _ _)),
      fun q V J hB hq h hi=>wp_guard hi (wants_y rfl (congrArg some (hq 22 rfl))) fun o2 h2=>op_loadT h2 rfl rfl rfl (hN.below (bw hB)) fun u hu=>h _ _ hu (.refl _ _),
      fun q V J hB hq h hi=>wp_guard hi (wants_y rfl (congrArg some (hq 22 rfl))) fun o2 h2=>op_loadT h2 rfl rfl rfl (hA.below (bw hB)) fun u hu=>h _ _ hu (.refl _ _),
      fun q V J hB hq h hi=>wp_guard hi (wants_y rfl (congrArg some (hq 22 rfl))) fun o2 h2=>op_row2 h2 rfl rfl rfl rfl (hq 24 rfl) (hq 25 rfl) h,
      fun q V J hB hq h hi=>wp_guard hi (wants_y rfl (congrArg some (hq 22 rfl))) fun o2 h2=>op_tree (nm:=nMay) h2 rfl rfl rfl (hq 26 rfl) h,
      fun q V J hB hq h hi=>wp_guard hi (wants_y rfl (congrArg some (hq 22 rfl))) fun o2 h2=>op_loadF h2 rfl rfl eg (hF.below (bw hB)) fun u hu=>h _ _ hu (.refl _ _),
      fun q V J hB hq h hi=>wp_guard hi (wants_y rfl (congrArg some (hq 22 rfl))) fun o2 h2=>op_fs1 h2 rfl rfl rfl (hq 28 rfl) h,
      fun q V J hB hq h hi=>wp_guard hi (wants_y rfl (congrArg some (hq 22 rfl))) fun o2 h2=>op_join (op:=12) h2 rfl rfl rfl (hq 29 rfl) h,
      fun q V J hB hq h hi=>wp_guard hi (wants_y rfl (congrArg some (hq 22 rfl))) fun o2 h2=>op_means (T:=T) (s:=s) (t:=tS nMay name vp) (F:=(opF 12 [m.f0])) h2 rfl rfl (hq 23 rfl) rfl rfl (hq 27 rfl) (hq 30 rfl) (hT.below (b0 (bw hB))) (hS.below (bw hB)).2 (tS_sm (by decide) hnm svp) (tS_nodes (by omega)) hY.2.2 fun w1 hb=>h _ _ rfl hb,
      fun q V J hB hq h hi=>op_pickF hi rfl rfl (hq 22 rfl) (hq 31 rfl) (h _ _ rfl (.refl _ _)),
      fun q V J hB hq h hi=>op_asg hi rfl rfl (hq 32 rfl) (h _ _ rfl (.refl _ _)),trivial⟩ ?_)
     intro q V9 hB9 hx
     exact wp_ret (bodyPost_yes (show Tryz.f11.results= #[.tmp 6]from rfl) (hx 33 (by decide)) rfl (below_step hB (bw hB9)))
    |error e0 =>
     obtain rfl:e0=c:=by rw[←hc,hq0];rfl
     have hY:=scope_no hq0
     rw[hd]at hY
     have hb0:(e0 != 0)=true:=by simp[hY.1]
     refine wp_seq (wp_seq (wp_region_list (list_op (i:=0) rfl (op_mv (v:= .int .i64 e0) rfl rfl rfl e11 (fop rfl (by decide) (list_op (i:=1) rfl (op_nec (n:=e0) (m:=0) (b:=true) rfl rfl rfl hb0 rfl (fop rfl (by decide) (wp_nil (wp_cond (t:=true) rfl ?_))))))))))
     refine wp_seq (region_x37 5 9 10 89 [.is (sgV s),.isT (npN name),.isT vp,.isL [npN name,vp],.isT (tS nMust name vp)] (fun _=> .int .i64 d) (fun j=>j == 8) [41,42,43,44,45,46,40,47,48,10,999,11] _ V (senP s (tS nMust name vp)) [.int .i64 d] (by decide) (by decide) (by kernel_rfl) (by kernel_rfl) (by kernel_rfl) (by kernel_rfl) (by kernel_rfl) rfl ⟨rfl,by decide⟩ ⟨
      fun q V J hB hq h hi=>op_loadS hi rfl rfl rfl (hS.below (bw hB)) (h _ _ rfl (.refl _ _)),
      fun q V J hB hq h hi=>op_loadT hi rfl rfl rfl (hN.below (bw hB)) fun u hu=>h _ _ hu (.refl _ _),
      fun q V J hB hq h hi=>op_loadT hi rfl rfl rfl (hA.below (bw hB)) fun u hu=>h _ _ hu (.refl _ _),
      fun q V J hB hq h hi=>op_row2 hi rfl rfl rfl rfl (hq 1 rfl) (hq 2 rfl) h,
      fun q V J hB hq h hi=>op_tree (nm:=nMust) hi rfl rfl rfl (hq 3 rfl) h,trivial⟩
      (fun o x w J ho hB hx h=>by injection ho with ho;subst ho;exact op_sentC (T:=T) (s:=s) (t:=tS nMust name vp) rfl rfl rfl (hx 0 (by decide) rfl) rfl hd (hx 4 (by decide) rfl) (hT.below (b0 (bw hB))) (hS.below (bw hB)).2 (tS_sm (by decide) hnm svp) (tS_nodes (by omega)) h)
      (fun o x w J ho h=>by injection ho with ho;subst ho;exact op_mv rfl rfl rfl rfl h)
      (fun o x w J u cs' ho e h=>by injection ho with ho;subst ho;exact op_ext rfl rfl rfl e rfl h)
      (fun o x w J ho h=>by injection ho with ho;subst ho;exact op_new37 rfl rfl rfl h)
      (fun o x w J g ho e hz hF h=>by injection ho with ho;subst ho;exact op_store37 rfl rfl rfl rfl e rfl hz hF fun w' h37 hb _=>h w' h37 hb)
      (fun i o x w J h0 ha hL ho hd h=>by
       by_cases e1:i=8
       ·subst e1
        injection ho with ho;subst ho;obtain ⟨u,e⟩:∃u,x 6= .tuple (u::[Value.int .i64 d]).toArray:=hd 6 rfl (by decide)
        exact op_ext rfl rfl rfl e rfl h
       ·by_cases e2:i=11
        ·subst e2
         injection ho with ho;subst ho;have e:x 8= .int .i64 d:=hd 8 rfl (by decide)
         exact op_asg rfl rfl rfl e h
        ·rw[Array.getElem?_eq_none (by simp;omega)]at ho
         cases ho) ?_)
     intro x2 V2 _ hp2 hBV
     have f11:=hp2 11 (by decide) (by decide) (by decide) (by decide)
     replace hB:=below_step hB hBV
     obtain ⟨b,hb⟩:∃b,(e0 == d)=b:=⟨_,rfl⟩
     refine wp_seq (wp_region_list (list_op (i:=0) rfl (op_mv (v:= .int .i64 e0) rfl rfl rfl e11 (fop rfl (by decide) (list_op (i:=1) rfl (op_mv (v:= .int .i64 d) rfl rfl rfl f11 (fop rfl (by decide) (list_op (i:=2) rfl (op_eqcc (n:=e0) (m:=d) (b:=b) rfl rfl rfl hb rfl rfl (fop rfl (by decide) (list_op (i:=3) rfl (op_mv (v:= .bool b) rfl rfl rfl rfl (fop rfl (by decide) ?_)))))))))))))
     cases b with
     |true =>
      refine (list_op (i:=4) rfl (op_skip rfl (wants_n rfl rfl) (fop rfl (by decide) (list_op (i:=5) rfl (op_skip rfl (wants_n rfl rfl) (fop rfl (by decide) (list_op (i:=6) rfl (op_pickT (b:=true) (c:=false) rfl rfl rfl rfl (fun h=>by cases h) (fop rfl (by decide) (list_op (i:=7) rfl (op_asg (v:= .bool true) rfl rfl rfl rfl (fop rfl (by decide) (wp_nil (wp_ret ?_))))))))))))))
      exact bodyPost_yes (show Tryz.f11.results= #[.tmp 6]from rfl) rfl rfl hB
     |false =>
      have hd2:(d == 2)=true:=by
       rcases hY.2 with h | h
       ·rw[h]at hb;simp at hb
       ·rw[h];rfl
      refine (list_op (i:=4) rfl (wp_guard rfl (wants_y rfl rfl) fun o2 h2=>op_mv (v:= .int .i64 d) h2 rfl rfl f11 (fop rfl (by decide) (list_op (i:=5) rfl (wp_guard rfl (wants_y rfl rfl) fun o2 h2=>op_eqc (n:=d) (m:=2) (b:=true) h2 rfl (by decide) rfl hd2 rfl (fop rfl (by decide) (list_op (i:=6) rfl (op_pickT (b:=false) (c:=true) rfl rfl rfl rfl (fun _=>rfl) (fop rfl (by decide) (list_op (i:=7) rfl (op_asg (v:= .bool true) rfl rfl rfl rfl (fop rfl (by decide) (wp_nil (wp_ret ?_))))))))))))))
      exact bodyPost_yes (show Tryz.f11.results= #[.tmp 6]from rfl) rfl rfl hB
end
end
set_option maxRecDepth 100000
section
theorem sum_mem {α:Type} {f:α→Nat} {x:α}:∀{l:List α},x∈l→f x≤sumOf f l
 |y::r,h=>by
  rcases List.mem_cons.1 h with rfl | h
  ·exact Nat.le_add_right _ _
  ·exact Nat.le_trans (sum_mem h) (Nat.le_add_left _ _)
theorem sum_ge {α:Type} {f:α→Nat} (h:∀x,1≤f x):∀l:List α,l.length≤sumOf f l
 | []=>Nat.le_refl _
 |y::r=>by have:=sum_ge h r;have:=h y;simp only[List.length_cons,sumOf];omega
theorem two {l:List Value} (h:l.length=2):∃a b,l=[a,b]:=by
 match l,h with
 | [a,b],_=>exact ⟨a,b,rfl⟩
instance inhB:Inhabited ByteArray:=⟨⟨#[]⟩⟩
instance inh105:Inhabited S105:=⟨z105⟩
instance inh107:Inhabited S107:=⟨z107⟩
def szS (y:ByteArray):Nat:=y.size+1
def sz105 (p:S105):Nat:=p.f0.size+p.f1.size+1
def sz107 (p:S107):Nat:=p.f0.size+sumOf szS p.f1+1
section
variable {H:Type} {enc:TypeId×Value→H} {w:World} {base:Nat} {spare:Nat→Bool} {held:Bool}
theorem open_str {fuel:Nat} {cs:List Value} {x:DataW H×List MemPlace} (h:DataW.trod enc Tryz.prog w base spare held fuel 9 cs=some x):∃s:ByteArray,cs=[.string s]∧szS s≤Rows.uptoBulk x.1:=by
 obtain ⟨s,hs,rfl,_⟩:=DataW.trod_string Tryz.underlying9 h
 refine ⟨s,hs,?_⟩
 have es:s.data.toList.length=s.size:=rfl
 unfold szS
 simp only[Rows.uptoBulk]
 omega
theorem open_strs {fuel:Nat} {cs:List Value} {x:DataW H×List MemPlace} (h:DataW.trod enc Tryz.prog w base spare held fuel 22 cs=some x):∃A xs c,cs=[.slice A xs.length c]∧xs.length≤c∧Kd.string.C w A xs.length xs∧sumOf szS xs+1≤Rows.uptoBulk x.1:=by
 obtain ⟨A,xs,c,ds,h1,h2,h3,h4,h5,h6⟩:=opened (kd:=Kd.string) (Q:=fun s d=>szS s≤Rows.uptoBulk d) Tryz.underlying22 (by kernel_rfl) h (fun n cs' y _ hy=>by
  obtain ⟨s,rfl,hb⟩:=open_str hy
  exact ⟨s,rfl,hb⟩)
 exact ⟨A,xs,c,h1,h2,h3,bulk_slice szS h4 h5 h6⟩
theorem open_con {fuel:Nat} {cs:List Value} {x:DataW H×List MemPlace} (h:DataW.trod enc Tryz.prog w base spare held fuel 105 cs=some x):∃p:S105,cs=[.string p.f0,.string p.f1]∧sz105 p≤Rows.uptoBulk x.1:=by
 obtain ⟨xs,n,rfl,rfl,hl,hlen,hf⟩:=DataW.trod_struct Tryz.underlying105 h
 obtain ⟨a,b,rfl⟩:=two (hl.trans (by kernel_rfl))
 match xs,hlen with
 | [y0,y1],_ =>
  have g0:DataW.trod enc Tryz.prog w base spare held n 9 [a]=some y0:=hf 0 _ rfl
  have g1:DataW.trod enc Tryz.prog w base spare held n 9 [b]=some y1:=hf 1 _ rfl
  obtain ⟨s,hs,b0⟩:=open_str g0
  obtain ⟨t,ht,b1⟩:=open_str g1
  injection hs with hs
  injection ht with ht
  subst hs
  subst ht
  refine ⟨⟨s,t⟩,rfl,?_⟩
  unfold szS at b0 b1
  unfold sz105
  simp only[List.map_cons,List.map_nil,Rows.uptoBulk,Rows.uptoBulkAll]
  omega
theorem open_prd {fuel:Nat} {cs:List Value} {x:DataW H×List MemPlace} (h:DataW.trod enc Tryz.prog w base spare held fuel 107 cs=some x):∃(p:S107) (A:Option Addr) (c:Nat),cs=[.string p.f0,.slice A p.f1.length c]∧p.f1.length≤c∧Kd.string.C w A p.f1.length p.f1∧sz107 p≤Rows.uptoBulk x.1:=by
 obtain ⟨xs,n,rfl,rfl,hl,hlen,hf⟩:=DataW.trod_struct Tryz.underlying107 h
 obtain ⟨a,b,rfl⟩:=two (hl.trans (by kernel_rfl))
 match xs,hlen with
 | [y0,y1],_ =>
  have g0:DataW.trod enc Tryz.prog w base spare held n 9 [a]=some y0:=hf 0 _ rfl
  have g1:DataW.trod enc Tryz.prog w base spare held n 22 [b]=some y1:=hf 1 _ rfl
  obtain ⟨s,hs,b0⟩:=open_str g0
  obtain ⟨A,ts,c,ht,l1,r1,b1⟩:=open_strs g1
  injection hs with hs
  injection ht with ht
  subst hs
  subst ht
  refine ⟨⟨s,ts⟩,A,c,rfl,l1,r1,?_⟩
  unfold szS at b0
  unfold sz107
  simp only[List.map_cons,List.map_nil,Rows.uptoBulk,Rows.uptoBulkAll]
  omega
theorem open_sig {fuel:Nat} {cs:List Value} {x:DataW H×List MemPlace} (h:DataW.trod enc Tryz.prog w base spare held fuel 26 cs=some x):∃s:Sg,cs=[.slice s.A0 s.ss.length s.c0,.slice s.A1 s.cs.length s.c1,.slice s.A2 s.ps.length s.c2]∧(Rows.uptoBulk x.1≤1048576→s.C w):=by
 obtain ⟨xs,n,rfl,rfl,hl,hlen,hf⟩:=DataW.trod_struct Tryz.underlying26 h
 obtain ⟨a,b,c,rfl⟩:=three (hl.trans (by kernel_rfl))
 match xs,hlen with
 | [y0,y1,y2],_ =>
  have g0:DataW.trod enc Tryz.prog w base spare held n 22 [a]=some y0:=hf 0 _ rfl
  have g1:DataW.trod enc Tryz.prog w base spare held n 23 [b]=some y1:=hf 1 _ rfl
  have g2:DataW.trod enc Tryz.prog w base spare held n 24 [c]=some y2:=hf 2 _ rfl
  obtain ⟨A0,ss,c0,e0,l0,r0,b0⟩:=open_strs g0
  obtain ⟨A1,cs1,c1,d1,e1,l1,r1,p1,q1,s1⟩:=opened (kd:=k105) (Q:=fun p d=>sz105 p≤Rows.uptoBulk d) Tryz.underlying23 (by kernel_rfl) g1 (fun n cs' y _ hy=>by
   obtain ⟨p,rfl,hb⟩:=open_con hy
   exact ⟨p,k105_mk w p,hb⟩)
  have b1:=bulk_slice sz105 p1 q1 s1
  obtain ⟨A2,ps,c2,d2,e2,l2,r2,p2,q2,s2⟩:=opened (kd:=k107) (Q:=fun p d=>sz107 p≤Rows.uptoBulk d) Tryz.underlying24 (by kernel_rfl) g2 (fun n cs' y _ hy=>by
   obtain ⟨p,A,c,rfl,hl,hC,hb⟩:=open_prd hy
   exact ⟨p,k107_mk w p hl hC,hb⟩)
  have b2:=bulk_slice sz107 p2 q2 s2
  injection e0 with e0
  injection e1 with e1
  injection e2 with e2
  subst e0
  subst e1
  subst e2
  refine ⟨⟨A0,c0,ss,A1,c1,cs1,A2,c2,ps⟩,rfl,fun hk=> ?_⟩
  simp only[List.map_cons,List.map_nil,Rows.uptoBulk,Rows.uptoBulkAll]at hk
  have n0:=sum_ge (f:=szS) (fun x=>by unfold szS;omega) ss
  have n1:=sum_ge (f:=sz105) (fun x=>by unfold sz105;omega) cs1
  have n2:=sum_ge (f:=sz107) (fun x=>by unfold sz107;omega) ps
  refine ⟨r0,l0,r1,l1,r2,l2,fun y hy=> ?_,fun y hy=> ?_,fun y hy=> ?_,by show ss.length≤2000000;omega,by show cs1.length≤2000000;omega,by show ps.length≤2000000;omega⟩
  ·have:szS y≤sumOf szS ss:=sum_mem hy
   have e:szS y=y.size+1:=rfl
   omega
  ·have:sz105 y≤sumOf sz105 cs1:=sum_mem hy
   have e:sz105 y=y.f0.size+y.f1.size+1:=rfl
   omega
  ·have h1:sz107 y≤sumOf sz107 ps:=sum_mem hy
   have e:sz107 y=y.f0.size+sumOf szS y.f1+1:=rfl
   have h2:=sum_ge (f:=szS) (fun x=>by unfold szS;omega) y.f1
   refine ⟨by omega,by omega,fun z hz=> ?_⟩
   have h3:=sum_mem (f:=szS) hz
   have e:szS z=z.size+1:=rfl
   omega
end
end
end Go.Proofs.YtcfjomnihhdpaaaGreatDoor.A
namespace Go.Proofs.YtcfjomnihhdpaaaGreatDoor
open Go
set_option maxRecDepth 100000
theorem seatTie1:Tryz.prog.laidByTextLater [("math/bits.deBruijn32tab",Rows.laid_math_bits_deBruijn32tab),("math/bits.deBruijn64tab",Rows.laid_math_bits_deBruijn64tab),("internal/strconv.uint64pow10",Rows.laid_internal_strconv_uint64pow10),("unicode/utf8.acceptRanges",Rows.laid_unicode_utf8_acceptRanges)] [.data,.data,.data,.data] true :=
 Program.laidByTextLater_by_one 34 8 65 (by kernel_rfl) (by kernel_rfl) (by kernel_rfl) (by kernel_rfl) (by kernel_rfl) (by kernel_rfl) (fun _ _=>by kernel_rfl)
theorem pin_laid_strconv_isGraphic:Tryz.pinned.checked.prog.pinnedFits "strconv.isGraphic" =true:=by kernel_rfl
theorem pin_laid_strconv_isNotPrint16:Tryz.pinned.checked.prog.pinnedFits "strconv.isNotPrint16" =true:=by kernel_rfl
theorem pin_laid_strconv_isNotPrint32:Tryz.pinned.checked.prog.pinnedFits "strconv.isNotPrint32" =true:=by kernel_rfl
theorem pin_laid_strconv_isPrint16:Tryz.pinned.checked.prog.pinnedFits "strconv.isPrint16" =true:=by kernel_rfl
theorem pin_laid_strconv_isPrint32:Tryz.pinned.checked.prog.pinnedFits "strconv.isPrint32" =true:=by kernel_rfl
theorem pin_laid_unicode_utf8_first:Tryz.pinned.checked.prog.pinnedFits "unicode/utf8.first" =true:=by kernel_rfl
theorem noOwnUnsafe:Tryz.pinned.checked.prog.headLifts.contains "ownunsafe" =false:=by kernel_rfl
theorem fits1:Tryz.pinned.checked.prog.listedFits [("math/bits.deBruijn32tab",Rows.laid_math_bits_deBruijn32tab),("math/bits.deBruijn64tab",Rows.laid_math_bits_deBruijn64tab),("internal/strconv.uint64pow10",Rows.laid_internal_strconv_uint64pow10),("unicode/utf8.acceptRanges",Rows.laid_unicode_utf8_acceptRanges),("strconv.isGraphic",Rows.laid_strconv_isGraphic),("strconv.isNotPrint16",Rows.laid_strconv_isNotPrint16),("strconv.isNotPrint32",Rows.laid_strconv_isNotPrint32),("strconv.isPrint16",Rows.laid_strconv_isPrint16),("strconv.isPrint32",Rows.laid_strconv_isPrint32),("unicode/utf8.first",Rows.laid_unicode_utf8_first)]=true:=by
 unfold Program.listedFits
 rw[noOwnUnsafe]
 kernel_rfl
theorem tie:Tryz.prog.laidByTextLater [("math/bits.deBruijn32tab",Rows.laid_math_bits_deBruijn32tab),("math/bits.deBruijn64tab",Rows.laid_math_bits_deBruijn64tab),("internal/strconv.uint64pow10",Rows.laid_internal_strconv_uint64pow10),("unicode/utf8.acceptRanges",Rows.laid_unicode_utf8_acceptRanges)] [.data,.data,.data,.data] true :=
 Program.laidByTextLater.sub seatTie1 ["math/bits.deBruijn32tab", "math/bits.deBruijn64tab", "internal/strconv.uint64pow10", "unicode/utf8.acceptRanges"] (by kernel_rfl) (by kernel_rfl)
theorem semanticsScopeUpto_row_tie:Rows.semanticsScopeUptoRow.laidByTextAt .later Tryz.pinned [.data,.data,.data,.data,.pinned,.pinned,.pinned,.pinned,.pinned,.pinned] true :=
 OpenClaim.laidByTextAt_pinned rfl rfl tie rfl rfl rfl rfl (fun y hy _e=>by
  simp only[Rows.semanticsScopeUptoRow,List.zip_cons_cons,List.zip_nil_right,List.mem_cons,List.mem_nil_iff,or_false]at hy
  rcases hy with rfl | rfl | rfl | rfl | rfl | rfl | rfl | rfl | rfl | rfl
  ·cases _e
  ·cases _e
  ·cases _e
  ·cases _e
  ·exact ⟨pin_laid_strconv_isGraphic,by kernel_rfl⟩
  ·exact ⟨pin_laid_strconv_isNotPrint16,by kernel_rfl⟩
  ·exact ⟨pin_laid_strconv_isNotPrint32,by kernel_rfl⟩
  ·exact ⟨pin_laid_strconv_isPrint16,by kernel_rfl⟩
  ·exact ⟨pin_laid_strconv_isPrint32,by kernel_rfl⟩
  ·exact ⟨pin_laid_unicode_utf8_first,by kernel_rfl⟩) fits1
end Go.Proofs.YtcfjomnihhdpaaaGreatDoor
