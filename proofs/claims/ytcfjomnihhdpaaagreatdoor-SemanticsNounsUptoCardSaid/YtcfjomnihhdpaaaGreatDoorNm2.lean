/-
  A part of the proof: Q44, Q38, Tie.
-/
import Derived.Test.YtcfjomnihhdpaaaGreatDoorRows
import Derived.LaidByTextLater
import Derived.SevenTiedAt
import Derived.LaidSub
import Derived.LaidOnce
import Derived.Test.YtcfjomnihhdpaaaGreatDoorNm0
import Derived.Test.YtcfjomnihhdpaaaGreatDoorNm1
namespace Go.Proofs.YtcfjomnihhdpaaaGreatDoor.A
open Go.RowKit Go.Proofs.YtcfjomnihhdpaaaGreatDoorW.PrintWords Go.Proofs.YtcfjomnihhdpaaaGreatDoorW.PrintLast Go.Proofs.YtcfjomnihhdpaaaGreatDoorW.PrintMore
set_option linter.unusedVariables false
set_option linter.unusedSimpArgs false
section
attribute [local go_sem] Oper.semAt_some
def Kn.tupF (N:Nat) (r:Except Int S70) (y:ByteArray) (c:Int):Kn:=⟨fun v w=>∃u,v= .tuple #[u,.string y,.int .i64 c]∧IsF w (fun k=>N≤k) r u,fun _ _ _ h hB=>h.imp fun _ h=>⟨h.1,h.2.below hB⟩⟩
def Kn.fv (N:Nat) (r:Except Int S70):Kn:=⟨fun v w=>IsF w (fun k=>N≤k) r v,fun _ _ _ h hB=>h.below hB⟩
theorem At37.six {w:World} {g:Nat} {r:Except Int S70} (h:At37 w g r):∃y0 y1 y2 y3 y4 y5,w.heap[g]? =some (.cells #[y0,y1,y2,y3,y4,y5] 37 (0,0)):=by
 cases r with
 |error c=>exact ⟨_,_,_,_,_,_,h⟩
 |ok m =>
  obtain ⟨A2,c2,A5,c5,h,_⟩:=h
  exact ⟨_,_,_,_,_,_,h⟩
section
attribute [local irreducible] wpList
theorem AtF.six' {w:World} {g:Nat} {F:S37} (h:AtF w g F):∃y0 y1 y2 y3 y4 y5,w.heap[g]? =some (.cells #[y0,y1,y2,y3,y4,y5] 37 (0,0)):=by
 obtain ⟨A2,c2,A5,c5,h,_⟩:=h
 exact ⟨_,_,_,_,_,_,h⟩
theorem sm_0 {f:ByteArray} (hf:f.size≤2000000):Sm ⟨f,[],[]⟩:=(Sm.eq _).2 ⟨hf,Nat.zero_le _,Nat.zero_le _,by simp[SmL]⟩
set_option maxHeartbeats 4000000 in
set_option maxRecDepth 100000 in
theorem nouns_walk (T:Lib.PrintTabs) (w:World) (hT:Tabs T w) (s:Sg) (cn vp:S30) (x:ByteArray) (A1:Option Addr) (c1:Nat) (A2:Option Addr) (c2:Nat) (B1:Option Addr) (d1:Nat) (B2:Option Addr) (d2:Nat) (hC:s.C w) (hxs:x.size≤2000000) (tv:TreeV w cn A1 c1 A2 c2) (uv:TreeV w vp B1 d1 B2 d2) (st:Sm cn) (su:Sm vp) (nt:nodes cn≤2000000) (nu:nodes vp≤2000000) :
  Calls Tryz.prog 10 #[sgV s,.agg #[.string cn.f0,.slice A1 cn.f1.length c1,.slice A2 cn.f2.length c2],.string x,.agg #[.string vp.f0,.slice B1 vp.f1.length d1,.slice B2 vp.f2.length d2]] w fun e w' =>e= .returned (.bool true)∧Below w.heap.size w w' :=by
 obtain ⟨c,hc⟩:∃c,codeOf (nouP s cn)=c:=⟨_,rfl⟩
 obtain ⟨d,hd⟩:∃d,codeOf (nouP s (tAdj x cn))=d:=⟨_,rfl⟩
 obtain ⟨d3,hd3⟩:∃d,codeOf (nouP s (tWho cn vp))=d:=⟨_,rfl⟩
 obtain ⟨y,hy⟩:∃y,ySort s cn=y:=⟨_,rfl⟩
 obtain ⟨y2,hy2⟩:∃y,ySort s (tAdj x cn)=y:=⟨_,rfl⟩
 obtain ⟨y3,hy3⟩:∃y,ySort s (tWho cn vp)=y:=⟨_,rfl⟩
 obtain ⟨b4,hb4⟩:∃b,decide (50<(x.size:Int))=b:=⟨_,rfl⟩
 refine calls_frN 106 (fun j=>match j with | 0=>sgV s | 1=> .agg #[.string cn.f0,.slice A1 cn.f1.length c1,.slice A2 cn.f2.length c2] | 2=> .string x | 3=> .agg #[.string vp.f0,.slice B1 vp.f1.length d1,.slice B2 vp.f2.length d2] | _=>undef) Tryz.func10 (show Tryz.f10.body=some _ from rfl) (by kernel_rfl) ?_
 refine wp_seq (wp_region_list (list_op (i:=0) rfl (op_box26 rfl rfl rfl rfl hC fun w1 hS b1 s1=>fop rfl (by decide) (list_op (i:=1) rfl (op_box30v rfl rfl rfl rfl (IsT.below ⟨A1,c1,A2,c2,rfl,tv⟩ b1) fun w2 hA b2 s2=>fop rfl (by decide) (list_op (i:=2) rfl (op_box30v rfl rfl rfl rfl (IsT.below ⟨B1,d1,B2,d2,rfl,uv⟩ (below_step b1 b2)) fun w3 hV b3 s3=>fop rfl (by decide) (list_op (i:=3) rfl (op_asgc rfl rfl rfl (fop rfl (by decide) (wp_nil ?_)))))))))))
 rw[s1]at hA s2 ⊢
 rw[s2]at hV ⊢
 replace hS:=(hS.below b2).below b3
 replace hA:=hA.below b3
 have hB:=below_step (below_step b1 b2) b3
 clear b1 b2 b3 s1 s2 s3 tv uv hC
 refine wp_seq (wp_seq (wp_region_list (list_op (i:=0) rfl (op_boolC (vs:= #[]) (P:=fun b=>b=true) rfl rfl (enters_of Tryz.func13 (by kernel_rfl) rfl) rfl (by simp only[List.map_toArray,List.map_nil]) (yes_ (awake_calls T _ (hT.below hB))) fun b wA eb hAw=>fop rfl (by decide) (list_op (i:=1) rfl (op_notb rfl rfl rfl rfl (fop rfl (by decide) (wp_nil (wp_cond rfl ?_)))))))))
 subst eb
 refine wp_skip ?_
 replace hS:=hS.below hAw
 replace hA:=hA.below hAw
 replace hV:=hV.below hAw
 replace hB:=below_step hB hAw
 clear hAw
 refine wp_seq (wp_seq (wp_region_list (list_op (i:=0) rfl (op_loadS rfl rfl rfl rfl hS (fop rfl (by decide) (list_op (i:=1) rfl (op_boolC (vs:= #[sgV s]) (P:=fun _=>True) rfl rfl (enters_of Tryz.func14 (by kernel_rfl) rfl) rfl (by simp only[List.map_toArray,List.map_cons,List.map_nil];rfl) (long_calls s wA) fun b1 wL _ hL=>fop rfl (by decide) (list_op (i:=2) rfl (op_mv (v:= .bool b1) rfl rfl rfl rfl (fop rfl (by decide) ?_))))))))))
 replace hS:=hS.below hL
 replace hA:=hA.below hL
 replace hV:=hV.below hL
 replace hB:=below_step hB hL
 clear hL
 cases b1 with
 |true =>
  refine (list_op (i:=3) rfl (op_skip rfl (wants_n rfl rfl) (fop rfl (by decide) (list_op (i:=4) rfl (op_skip rfl (wants_n rfl rfl) (fop rfl (by decide) (list_op (i:=5) rfl (op_pickT (b:=true) (c:=false) rfl rfl rfl rfl (fun h=>by cases h) (fop rfl (by decide) (list_op (i:=6) rfl (op_mv (v:= .bool true) rfl rfl rfl rfl (fop rfl (by decide) (list_op (i:=7) rfl (op_skip rfl (wants_n rfl rfl) (fop rfl (by decide) (list_op (i:=8) rfl (op_skip rfl (wants_n rfl rfl) (fop rfl (by decide) (list_op (i:=9) rfl (op_pickT (b:=true) (c:=false) rfl rfl rfl rfl (fun h=>by cases h) (fop rfl (by decide) (list_op (i:=10) rfl (op_mv (v:= .bool true) rfl rfl rfl rfl (fop rfl (by decide) (list_op (i:=11) rfl (op_skip rfl (wants_n rfl rfl) (fop rfl (by decide) (list_op (i:=12) rfl (op_skip rfl (wants_n rfl rfl) (fop rfl (by decide) (list_op (i:=13) rfl (op_skip rfl (wants_n rfl rfl) (fop rfl (by decide) (list_op (i:=14) rfl (op_pickT (b:=true) (c:=false) rfl rfl rfl rfl (fun h=>by cases h) (fop rfl (by decide) (wp_nil (wp_cond (t:=true) rfl ?_))))))))))))))))))))))))))))))))))))))
  refine wp_seq (wp_region_list (list_op (i:=0) rfl (op_asgc rfl rfl rfl (fop rfl (by decide) (wp_nil (wp_ret ?_))))))
  exact bodyPost_yes (show Tryz.f10.results= #[.tmp 8]from rfl) rfl rfl hB
 |false =>
  refine (list_op (i:=3) rfl (wp_guard rfl (wants_y rfl rfl) fun o2 h2=>op_loadT h2 rfl rfl rfl hA fun v2 hv2=>fop rfl (by decide) (list_op (i:=4) rfl (wp_guard rfl (wants_y rfl rfl) fun o2 h2=>op_boolC (vs:= #[v2,.int .i64 20]) (P:=fun b=>b=false→(nodes cn:Int)≤20) h2 rfl (enters_of Tryz.func15 (by kernel_rfl) rfl) rfl (by simp only[List.map_toArray,List.map_cons,List.map_nil];rfl) (large_v 20 (by decide) (by decide) nt hv2) fun b2 wM2 hl2 hM2=>fop rfl (by decide) (list_op (i:=5) rfl (op_pickT (b:=false) (c:=b2) rfl rfl rfl rfl (fun _=>rfl) (fop rfl (by decide) (list_op (i:=6) rfl (op_mv (v:= .bool b2) rfl rfl rfl rfl (fop rfl (by decide) ?_))))))))))
  clear hv2
  replace hS:=hS.below hM2
  replace hA:=hA.below hM2
  replace hV:=hV.below hM2
  replace hB:=below_step hB hM2
  clear hM2
  cases b2 with
  |true =>
   refine (list_op (i:=7) rfl (op_skip rfl (wants_n rfl rfl) (fop rfl (by decide) (list_op (i:=8) rfl (op_skip rfl (wants_n rfl rfl) (fop rfl (by decide) (list_op (i:=9) rfl (op_pickT (b:=true) (c:=false) rfl rfl rfl rfl (fun h=>by cases h) (fop rfl (by decide) (list_op (i:=10) rfl (op_mv (v:= .bool true) rfl rfl rfl rfl (fop rfl (by decide) (list_op (i:=11) rfl (op_skip rfl (wants_n rfl rfl) (fop rfl (by decide) (list_op (i:=12) rfl (op_skip rfl (wants_n rfl rfl) (fop rfl (by decide) (list_op (i:=13) rfl (op_skip rfl (wants_n rfl rfl) (fop rfl (by decide) (list_op (i:=14) rfl (op_pickT (b:=true) (c:=false) rfl rfl rfl rfl (fun h=>by cases h) (fop rfl (by decide) (wp_nil (wp_cond (t:=true) rfl ?_))))))))))))))))))))))))))
   refine wp_seq (wp_region_list (list_op (i:=0) rfl (op_asgc rfl rfl rfl (fop rfl (by decide) (wp_nil (wp_ret ?_))))))
   exact bodyPost_yes (show Tryz.f10.results= #[.tmp 8]from rfl) rfl rfl hB
  |false =>
   have hn2:=hl2 rfl
   clear hl2
   refine (list_op (i:=7) rfl (wp_guard rfl (wants_y rfl rfl) fun o2 h2=>op_loadT h2 rfl rfl rfl hV fun v3 hv3=>fop rfl (by decide) (list_op (i:=8) rfl (wp_guard rfl (wants_y rfl rfl) fun o2 h2=>op_boolC (vs:= #[v3,.int .i64 20]) (P:=fun b=>b=false→(nodes vp:Int)≤20) h2 rfl (enters_of Tryz.func15 (by kernel_rfl) rfl) rfl (by simp only[List.map_toArray,List.map_cons,List.map_nil];rfl) (large_v 20 (by decide) (by decide) nu hv3) fun b3 wM3 hl3 hM3=>fop rfl (by decide) (list_op (i:=9) rfl (op_pickT (b:=false) (c:=b3) rfl rfl rfl rfl (fun _=>rfl) (fop rfl (by decide) (list_op (i:=10) rfl (op_mv (v:= .bool b3) rfl rfl rfl rfl (fop rfl (by decide) ?_))))))))))
   clear hv3
   replace hS:=hS.below hM3
   replace hA:=hA.below hM3
   replace hV:=hV.below hM3
   replace hB:=below_step hB hM3
   clear hM3
   cases b3 with
   |true =>
    refine (list_op (i:=11) rfl (op_skip rfl (wants_n rfl rfl) (fop rfl (by decide) (list_op (i:=12) rfl (op_skip rfl (wants_n rfl rfl) (fop rfl (by decide) (list_op (i:=13) rfl (op_skip rfl (wants_n rfl rfl) (fop rfl (by decide) (list_op (i:=14) rfl (op_pickT (b:=true) (c:=false) rfl rfl rfl rfl (fun h=>by cases h) (fop rfl (by decide) (wp_nil (wp_cond (t:=true) rfl ?_))))))))))))))
    refine wp_seq (wp_region_list (list_op (i:=0) rfl (op_asgc rfl rfl rfl (fop rfl (by decide) (wp_nil (wp_ret ?_))))))
    exact bodyPost_yes (show Tryz.f10.results= #[.tmp 8]from rfl) rfl rfl hB
   |false =>
    have hn3:=hl3 rfl
    clear hl3
    refine (list_op (i:=11) rfl (wp_guard rfl (wants_y rfl rfl) fun o2 h2=>op_mv (v:= .string x) h2 rfl rfl rfl (fop rfl (by decide) (list_op (i:=12) rfl (wp_guard rfl (wants_y rfl rfl) fun o2 h2=>op_len (x:=x) h2 rfl rfl rfl (fop rfl (by decide) (list_op (i:=13) rfl (wp_guard rfl (wants_y rfl rfl) fun o2 h2=>op_gtcb (n:=x.size) (m:=50) (b:=b4) h2 rfl rfl hb4 rfl (fop rfl (by decide) (list_op (i:=14) rfl (op_pickT (b:=false) (c:=b4) rfl rfl rfl rfl (fun _=>rfl) (fop rfl (by decide) (wp_nil (wp_cond (t:=b4) rfl ?_))))))))))))))
    cases b4 with
    |true =>
     refine wp_seq (wp_region_list (list_op (i:=0) rfl (op_asgc rfl rfl rfl (fop rfl (by decide) (wp_nil (wp_ret ?_))))))
     exact bodyPost_yes (show Tryz.f10.results= #[.tmp 8]from rfl) rfl rfl hB
    |false =>
     refine wp_skip ?_
     refine wp_seq (wp_region_list (list_op (i:=0) rfl (op_loadS rfl rfl rfl rfl hS (fop rfl (by decide) (list_op (i:=1) rfl (op_loadT rfl rfl rfl rfl hA fun v5 h5=>fop rfl (by decide) (list_op (i:=2) rfl (op_nounC (s:=s) (t:=cn) rfl rfl rfl rfl rfl hc hy h5 hS.2 st (by omega) fun u5 x5 hu5 p5=>fop rfl (by decide) (list_op (i:=3) rfl (op_mv (v:= .tuple #[u5,.string y,.int .i64 c]) rfl rfl rfl rfl (fop rfl (by decide) (list_op (i:=4) rfl (op_ext (v:=u5) rfl rfl rfl rfl rfl (fop rfl (by decide) (list_op (i:=5) rfl (op_ext (v:= .string y) rfl rfl rfl rfl rfl (fop rfl (by decide) (list_op (i:=6) rfl (op_ext (v:= .int .i64 c) rfl rfl rfl rfl rfl (fop rfl (by decide) (list_op (i:=7) rfl (op_new37 rfl rfl rfl (fop rfl (by decide) (list_op (i:=8) rfl (op_store37 rfl rfl rfl rfl rfl rfl (heap_alloc_new _ _) ((hu5.mono (ok' :=fun k=>k≠x5.heap.size) (fun k _ hk=>by omega)).below (below_alloc (Below.refl _ _) _)) fun y5 hF5 q5 _=>(list_op (i:=9) rfl (op_asg (v:= .string y) rfl rfl rfl rfl (fop rfl (by decide) (list_op (i:=10) rfl (op_asg (v:= .int .i64 c) rfl rfl rfl rfl (fop rfl (by decide) (wp_nil ?_))))))))))))))))))))))))))))))))
     have hk5:=below_step p5 ((below_alloc (Below.refl x5.heap.size x5) zero37).trans (q5 x5.heap.size (Nat.le_refl _)))
     replace hS:=hS.below hk5
     replace hA:=hA.below hk5
     replace hV:=hV.below hk5
     replace hB:=below_step hB hk5
     clear hk5
     clear p5 q5 hu5 h5
     generalize hg5:x5.heap.size=e5 at *
     clear hg5
     generalize y5=U at *
     cases hq1:nouP s cn with
     |error e0 =>
      obtain rfl:e0=c:=by rw[←hc,hq1];rfl
      refine wp_seq (wp_seq (wp_region_list (list_op (i:=0) rfl (op_mv (v:= .int .i64 e0) rfl rfl rfl rfl (fop rfl (by decide) (list_op (i:=1) rfl (op_nec (n:=e0) (m:=0) (b:=true) rfl rfl rfl (nouP_err hq1) rfl (fop rfl (by decide) (wp_nil (wp_cond (t:=true) rfl ?_))))))))))
      refine wp_seq (wp_region_list (list_op (i:=0) rfl (op_asgc rfl rfl rfl (fop rfl (by decide) (wp_nil (wp_ret ?_))))))
      exact bodyPost_yes (show Tryz.f10.results= #[.tmp 8]from rfl) rfl rfl hB
     |ok m =>
      obtain rfl:0=c:=by rw[←hc,hq1];rfl
      rw[hq1]at hF5
      replace hF5:AtF U e5 m.f0:=hF5
      refine wp_seq (wp_seq (wp_region_list (list_op (i:=0) rfl (op_mv (v:= .int .i64 0) rfl rfl rfl rfl (fop rfl (by decide) (list_op (i:=1) rfl (op_nec (n:=0) (m:=0) (b:=false) rfl rfl rfl rfl rfl (fop rfl (by decide) (wp_nil (wp_cond (t:=false) rfl ?_))))))))))
      refine wp_skip ?_
      have bw:∀{V},Below U.drew.heap.size U.drew V→Below U.heap.size U V:=fun hB=>below_step (below_drew (Below.refl _ _)) hB
      refine wp_seq (region_x37g 6 11 12 106 [.is (sgV s),.is (.string x),.isT ⟨x,[],[]⟩,.isT cn,.isL [⟨x,[],[]⟩,cn],.isT (tAdj x cn)] (fun i=>match i with | 9=> .string y2 | 13=> .string y2 | _=> .int .i64 d) (fun j=>j == 9 || j == 10) [43,44,45,46,47,48,49,42,50,51,52,12,999,13,14] _ U (nouP s (tAdj x cn)) [.string y2,.int .i64 d] (by decide) (by decide) (by kernel_rfl) (by kernel_rfl) (by kernel_rfl) (by kernel_rfl) (by kernel_rfl) rfl ⟨rfl,by decide⟩ ⟨
       fun q V J hB hq h hi=>op_loadS hi rfl rfl rfl (hS.below (bw hB)) (h _ _ rfl (.refl _ _)),
       fun q V J hB hq h hi=>op_mv hi rfl rfl rfl (h _ _ rfl (.refl _ _)),
       fun q V J hB hq h hi=>op_treeN (nm:=x) (l:=[]) hi rfl rfl (by simp only[List.map_toArray,List.map_cons,List.map_nil];show #[q 1,_]=_;rw[show q 1=_ from hq 1 rfl];rfl) (IsL.nil _) h,
       fun q V J hB hq h hi=>op_loadT hi rfl rfl rfl (hA.below (bw hB)) fun u hu=>h _ _ hu (.refl _ _),
       fun q V J hB hq h hi=>op_row2 hi rfl rfl rfl rfl (hq 2 rfl) (hq 3 rfl) h,
       fun q V J hB hq h hi=>op_tree (nm:=nAdj) hi rfl rfl rfl (hq 4 rfl) h,trivial⟩
       (fun o x' w J ho hB hx h=>by injection ho with ho;subst ho;exact op_nounC (s:=s) (t:=tAdj x cn) rfl rfl rfl (hx 0 (by decide) rfl) rfl hd hy2 (hx 5 (by decide) rfl) (hS.below (bw hB)).2 (sm_2 (by decide) (sm_0 hxs) st) (by rw[nodes_adj];omega) h)
       (fun o x' w J ho h=>by injection ho with ho;subst ho;exact op_mv rfl rfl rfl rfl h)
       (fun o x' w J u cs' ho e h=>by injection ho with ho;subst ho;exact op_ext rfl rfl rfl e rfl h)
       (fun o x' w J ho h=>by injection ho with ho;subst ho;exact op_new37 rfl rfl rfl h)
       (fun o x' w J g ho e hz hF h=>by injection ho with ho;subst ho;exact op_store37 rfl rfl rfl rfl e rfl hz hF fun w' h37 hb _=>h w' h37 hb)
       (fun i o x' w J h0 ha hL ho hd' h=>by
        by_cases e1:i=9
        ·subst e1
         injection ho with ho;subst ho;obtain ⟨u,e⟩:∃u,x' 7= .tuple (u::[Value.string y2,.int .i64 d]).toArray:=hd' 7 rfl (by decide)
         exact op_ext rfl rfl rfl e rfl h
        ·by_cases e2:i=10
         ·subst e2
          injection ho with ho;subst ho;obtain ⟨u,e⟩:∃u,x' 7= .tuple (u::[Value.string y2,.int .i64 d]).toArray:=hd' 7 rfl (by decide)
          exact op_ext rfl rfl rfl e rfl h
         ·by_cases e3:i=13
          ·subst e3
           injection ho with ho;subst ho;have e:x' 9= .string y2:=hd' 9 rfl (by decide)
           exact op_asg rfl rfl rfl e h
          ·by_cases e4:i=14
           ·subst e4
            injection ho with ho;subst ho;have e:x' 10= .int .i64 d:=hd' 10 rfl (by decide)
            exact op_asg rfl rfl rfl e h
           ·rw[Array.getElem?_eq_none (by simp;omega)]at ho
            cases ho) ?_)
      intro q8 V h37 hp hBV
      have e13:q8 13= .string y2:=hp 13 (by decide) (by decide) (by decide) (by decide)
      have e14:q8 14= .int .i64 d:=hp 14 (by decide) (by decide) (by decide) (by decide)
      obtain ⟨g12,eg,h37,hg12⟩:=h37
      refine wp_seq (wp_out (fun a' V1=>∃f',a' =frN 106 f' ∧f' 4= .pointer (some ⟨w.heap.size,0,none⟩)∧f' 5= .pointer (some ⟨(w.heap.size+1),0,none⟩)∧f' 7= .pointer (some ⟨(w.heap.size+1+1),0,none⟩)∧f' 9= .pointer (some ⟨e5,0,none⟩)∧f' 10= .string y∧f' 12= .pointer (some ⟨g12,0,none⟩)∧(∃z0 z1 z2 z3 z4 z5,V1.heap[g12]? =some (.cells #[z0,z1,z2,z3,z4,z5] 37 (0,0)))∧Below U.heap.size U V1) ?_ ?_)
      ·cases hq2:nouP s (tAdj x cn)with
       |error e1 =>
        obtain rfl:e1=d:=by rw[←hd,hq2];rfl
        have hb0:(e1 == 0)=false:=by have:=nouP_err hq2;simpa using this
        refine wp_seq (wp_region_list (list_op (i:=0) rfl (op_mv (v:= .int .i64 e1) rfl rfl rfl e14 (fop rfl (by decide) (list_op (i:=1) rfl (op_eqc (n:=e1) (m:=0) (b:=false) rfl rfl (by decide) rfl hb0 rfl (fop rfl (by decide) (wp_nil (wp_cond (t:=false) rfl ?_)))))))))
        exact wp_skip ⟨_,rfl,rfl,rfl,rfl,rfl,rfl,eg,h37.six,hBV⟩
       |ok m2 =>
        obtain rfl:0=d:=by rw[←hd,hq2];rfl
        obtain ⟨hyy,hf2⟩:=adj_sort hq1 hq2
        obtain rfl:y2=y:=by rw[←hy2,←hy,hyy]
        rw[hq2]at h37
        have hA12:AtF V g12 (opF 5 [adjF x,m.f0]):=by rw[←hf2];exact h37
        refine wp_seq (wp_region_list (list_op (i:=0) rfl (op_mv (v:= .int .i64 0) rfl rfl rfl e14 (fop rfl (by decide) (list_op (i:=1) rfl (op_eqc (n:=0) (m:=0) (b:=true) rfl rfl (by decide) rfl rfl rfl (fop rfl (by decide) (wp_nil (wp_cond (t:=true) rfl ?_)))))))))
        refine wp_seq (wp_region_list (list_op (i:=0) rfl (op_mv (v:= .string x) rfl rfl rfl rfl (fop rfl (by decide) (list_op (i:=1) rfl (op_bd59 (n:=1) rfl rfl rfl (fop rfl (by decide) (list_op (i:=2) rfl (op_rs1 (r:=⟨1,0,⟨#[]⟩⟩) rfl rfl rfl rfl fun v2 z2 j2 k2=>fop rfl (by decide) (list_op (i:=3) rfl (op_bd3 (x:=x) rfl rfl rfl rfl rfl j2 fun v3 j3=>fop rfl (by decide) (list_op (i:=4) rfl (op_new37 rfl rfl rfl (fop rfl (by decide) (list_op (i:=5) rfl (op_st37v (w0:=z2) rfl rfl rfl rfl rfl rfl j3 (below_alloc (Below.refl _ _) _) (Nat.le_refl _) (heap_alloc_new _ _) fun X hX k5=>(wp_nil ?_)))))))))))))))))
        have hkX:=below_step k2 k5
        have hFX:=(hF5.below hBV).below hkX
        replace hA12:=hA12.below hkX
        have hBX:=below_step hBV hkX
        clear k2 k5 j2 j3
        generalize z2.heap.size=g15 at *
        have bw:∀{V1},Below X.drew.heap.size X.drew V1→Below X.heap.size X V1:=fun hB=>below_step (below_drew (Below.refl _ _)) hB
        refine wp_seq (region_kn0 106 [.is (.string y2),.is (.string y2),.is (.bool false),.is (.bool false),.fm (opF 5 [adjF x,m.f0]),.fm (adjF x),.fm m.f0,.fs [adjF x,m.f0],.fm (opF 5 [adjF x,m.f0]),.is (.int .i64 0),.is (.bool false),.is (.bool false)] [59,60,61,62,63,64,65,66,67,68,69,70] _ X (by kernel_rfl) (by kernel_rfl) ⟨
         fun q V J hB hq h hi=>op_mv hi rfl rfl e13 (h _ _ rfl (.refl _ _)),
         fun q V J hB hq h hi=>op_mv hi rfl rfl rfl (h _ _ rfl (.refl _ _)),
         fun q V J hB hq h hi=>op_neS (x:=y2) hi rfl rfl (hq 0 rfl) (hq 1 rfl) (h _ _ rfl (.refl _ _)),
         fun q V J hB hq h hi=>op_mv hi rfl rfl (hq 2 rfl) (h _ _ rfl (.refl _ _)),
         fun q V J hB hq h hi=>wp_guard hi (wants_y rfl (congrArg some (hq 3 rfl))) fun o2 h2=>op_loadF h2 rfl rfl eg (hA12.below (bw hB)) fun u hu=>h _ _ hu (.refl _ _),
         fun q V J hB hq h hi=>wp_guard hi (wants_y rfl (congrArg some (hq 3 rfl))) fun o2 h2=>op_loadF h2 rfl rfl rfl (hX.below (bw hB)) fun u hu=>h _ _ hu (.refl _ _),
         fun q V J hB hq h hi=>wp_guard hi (wants_y rfl (congrArg some (hq 3 rfl))) fun o2 h2=>op_loadF h2 rfl rfl rfl (hFX.below (bw hB)) fun u hu=>h _ _ hu (.refl _ _),
         fun q V J hB hq h hi=>wp_guard hi (wants_y rfl (congrArg some (hq 3 rfl))) fun o2 h2=>op_fs2 h2 rfl rfl rfl rfl (hq 5 rfl) (hq 6 rfl) h,
         fun q V J hB hq h hi=>wp_guard hi (wants_y rfl (congrArg some (hq 3 rfl))) fun o2 h2=>op_join (op:=5) h2 rfl rfl rfl (hq 7 rfl) h,
         fun q V J hB hq h hi=>wp_guard hi (wants_y rfl (congrArg some (hq 3 rfl))) fun o2 h2=>op_cmpF (F:=(opF 5 [adjF x,m.f0])) h2 rfl rfl rfl rfl (hq 4 rfl) (hq 8 rfl) fun w1 hb=>h _ _ rfl hb,
         fun q V J hB hq h hi=>wp_guard hi (wants_y rfl (congrArg some (hq 3 rfl))) fun o2 h2=>op_ne3 (n:=0) (m:=0) h2 rfl rfl rfl (hq 9 rfl) (h _ _ rfl (.refl _ _)),
         fun q V J hB hq h hi=>op_pickT (b:=false) (c:=false) hi rfl rfl (hq 3 rfl) (fun _=>hq 10 rfl) (h _ _ rfl (.refl _ _)),trivial⟩ ?_)
        intro q11 V11 hB11 hx11
        refine wp_cond (t:=false) (hx11 11 (by decide)) ?_
        exact wp_skip ⟨_,rfl,rfl,rfl,rfl,rfl,rfl,eg,(AtF.below hA12 (bw hB11)).six',below_step hBX (bw hB11)⟩
      ·rintro a' W ⟨f',rfl,f4,f5,f7,f9,f10,f12,⟨z0,z1,z2,z3,z4,z5,hz⟩,hBW⟩
       have bu:∀{V1},Below W.heap.size W V1→Below U.heap.size U V1:=fun h=>below_step hBW h
       have bw:∀{V1},Below W.drew.heap.size W.drew V1→Below W.heap.size W V1:=fun hB=>below_step (below_drew (Below.refl _ _)) hB
       refine wp_seq (region_kp 10 106 (fun j=>j == 8 || j == 9) 0 7 [.is (sgV s),.isT cn,.isT vp,.isL [cn,vp],.isT (tWho cn vp),.tupF W.heap.size (nouP s (tWho cn vp)) y3 d3,.tupF W.heap.size (nouP s (tWho cn vp)) y3 d3,.fv W.heap.size (nouP s (tWho cn vp)),.is (.string y3),.is (.int .i64 d3),.top,.is (.string y3),.is (.int .i64 d3)] (fun i v=>(i=6→∃u,v= .tuple #[u,.string y3,.int .i64 d3])∧(i=8∨i=11→v= .string y3)∧(i=9∨i=12→v= .int .i64 d3)) [72,73,74,75,76,77,71,78,79,80,998,13,14] _ W (fun _ V1=>At37 V1 g12 (nouP s (tWho cn vp))∧Below U.heap.size U V1) (by decide) (by kernel_rfl) (by kernel_rfl) (by kernel_rfl) (by kernel_rfl) rfl (by decide) ?_ ⟨
        fun q V J hB hq h hi=>op_loadS hi rfl rfl f4 (hS.below (bu (bw hB))) (h _ _ rfl (.refl _ _)),
        fun q V J hB hq h hi=>op_loadT hi rfl rfl f5 (hA.below (bu (bw hB))) fun u hu=>h _ _ hu (.refl _ _),
        fun q V J hB hq h hi=>op_loadT hi rfl rfl f7 (hV.below (bu (bw hB))) fun u hu=>h _ _ hu (.refl _ _),
        fun q V J hB hq h hi=>op_row2 hi rfl rfl rfl rfl (hq 1 rfl) (hq 2 rfl) h,
        fun q V J hB hq h hi=>op_tree (nm:=nWho) hi rfl rfl rfl (hq 3 rfl) h,
        fun q V J hB hq h hi=>op_nounC (s:=s) (t:=tWho cn vp) hi rfl rfl (hq 0 rfl) rfl hd3 hy3 (hq 4 rfl) (hS.below (bu (bw hB))).2 (sm_2 (by decide) st su) (by rw[nodes_who];omega) fun u w' hu hb=>h _ w' ⟨u,rfl,hu.mono (fun k hk _=>Nat.le_trans (bw hB).size hk)⟩ hb,
        fun q V J hB hq h hi=>op_mv hi rfl rfl rfl (h _ _ (hq 5 rfl) (.refl _ _)),
        fun q V J hB hq h hi=>by obtain ⟨u,e,hu⟩:=hq 6 rfl;exact op_ext hi rfl rfl e rfl (h _ _ hu (.refl _ _)),
        fun q V J hB hq h hi=>by obtain ⟨u,e,hu⟩:=hq 6 rfl;exact op_ext hi rfl rfl e rfl (h _ _ rfl (.refl _ _)),
        fun q V J hB hq h hi=>by obtain ⟨u,e,hu⟩:=hq 6 rfl;exact op_ext hi rfl rfl e rfl (h _ _ rfl (.refl _ _)),trivial⟩ ?_ ?_ ?_)
       ·intro i v V1 h
        refine ⟨fun e=> ?_,fun e=> ?_,fun e=> ?_⟩
        ·subst e
         obtain ⟨u,e,_⟩:=h
         exact ⟨u,e⟩
        ·rcases e with rfl | rfl<;>exact h
        ·rcases e with rfl | rfl<;>exact h
       ·intro o q V1 J hi hB hq h
        injection hi with hi
        subst hi
        have hF:=hq 7 (by decide) (by decide)
        have hlt:=blk_lt hz
        exact op_store37y rfl rfl rfl rfl f12 rfl (blk_below hz (bw hB)) (IsF.mono hF (fun k hk _=>by omega)) fun w' h1 h2 _=>h undef w' ⟨h1,(bu (bw hB)).trans (h2 _ hg12)⟩
       ·intro i o q V1 J hl' hi hd' h
        by_cases e8:i=8
        ·subst e8
         injection hi with hi
         subst hi
         obtain ⟨u,e⟩:=(hd' 6 rfl (by decide)).1 rfl
         exact op_ext rfl rfl rfl e rfl (h _ ⟨fun e=>absurd e (by decide),fun _=>rfl,fun e=>absurd e (by decide)⟩)
        ·by_cases e9:i=9
         ·subst e9
          injection hi with hi
          subst hi
          obtain ⟨u,e⟩:=(hd' 6 rfl (by decide)).1 rfl
          exact op_ext rfl rfl rfl e rfl (h _ ⟨fun e=>absurd e (by decide),fun e=>absurd e (by decide),fun _=>rfl⟩)
         ·by_cases e11:i=11
          ·subst e11
           injection hi with hi
           subst hi
           have e:=(hd' 8 rfl (by decide)).2.1 (.inl rfl)
           exact op_asg rfl rfl rfl e (h _ ⟨fun e=>absurd e (by decide),fun _=>rfl,fun e=>absurd e (by decide)⟩)
          ·by_cases e12:i=12
           ·subst e12
            injection hi with hi
            subst hi
            have e:=(hd' 9 rfl (by decide)).2.2 (.inl rfl)
            exact op_asg rfl rfl rfl e (h _ ⟨fun e=>absurd e (by decide),fun e=>absurd e (by decide),fun _=>rfl⟩)
           ·exfalso
            rcases hl' with hl' | hl'
            ·simp at hl'
             omega
            ·rw[Array.getElem?_eq_none (by simp;omega)]at hi
             cases hi
       intro q13 V hp13 hD13
       obtain ⟨h37,hBU⟩:=hD13
       have t13:q13 11= .string y3:=(hp13 11 (by decide) (by decide)).2.1 (.inr rfl)
       have t14:q13 12= .int .i64 d3:=(hp13 12 (by decide) (by decide)).2.2 (.inr rfl)
       replace hB:=below_step hB hBU
       have hFV:=hF5.below hBU
       clear bu bw
       cases hq3:nouP s (tWho cn vp)with
       |error e1 =>
        obtain rfl:e1=d3:=by rw[←hd3,hq3];rfl
        refine wp_seq (wp_seq (wp_region_list (list_op (i:=0) rfl (op_mv (v:= .int .i64 e1) rfl rfl rfl t14 (fop rfl (by decide) (list_op (i:=1) rfl (op_nec (n:=e1) (m:=0) (b:=true) rfl rfl rfl (nouP_err hq3) rfl (fop rfl (by decide) (wp_nil (wp_cond (t:=true) rfl ?_))))))))))
        refine wp_seq (wp_region_list (list_op (i:=0) rfl (op_asgc rfl rfl rfl (fop rfl (by decide) (wp_nil (wp_ret ?_))))))
        exact bodyPost_yes (show Tryz.f10.results= #[.tmp 8]from rfl) rfl rfl hB
       |ok m3 =>
        obtain rfl:0=d3:=by rw[←hd3,hq3];rfl
        obtain ⟨hyy,k3,hf3⟩:=who_sort hq1 hq3
        obtain rfl:y3=y:=by rw[←hy3,←hy,hyy]
        rw[hq3]at h37
        refine wp_seq (wp_seq (wp_region_list (list_op (i:=0) rfl (op_mv (v:= .int .i64 0) rfl rfl rfl t14 (fop rfl (by decide) (list_op (i:=1) rfl (op_nec (n:=0) (m:=0) (b:=false) rfl rfl rfl rfl rfl (fop rfl (by decide) (wp_nil (wp_cond (t:=false) rfl ?_))))))))))
        refine wp_skip ?_
        have h37:AtF V g12 (opF 5 [m.f0,k3]):=by rw[←hf3];exact h37
        obtain ⟨E2,n2,E5,c5,hb12,hFm⟩:=h37
        obtain ⟨ad,D2,e2,D5,e9,eA,x0,x1,x2,x3,x4,x5,l2,g2,l5,g5⟩:=at_T37 (show k37.C V E5 2 [m.f0,k3]from hFm.k) 0 (by decide) (by decide)
        subst eA
        have bw:∀{V1},Below V.drew.heap.size V.drew V1→Below V.heap.size V V1:=fun hB=>below_step (below_drew (Below.refl _ _)) hB
        refine wp_seq (region_kn0 106 [.is (.string y3),.is (.string y3),.is (.bool true),.is (.bool true),.is (.pointer (some ⟨g12,0,none⟩)),.is (.int .i64 5),.is (.bool true),.is (.bool true),.is (.bool true),.is (.pointer (some ⟨g12,5,none⟩)),.is (.slice (some ad) 2 c5),.is (.int .i64 2),.is (.bool true),.is (.bool true),.is (.bool true),.is (.pointer (some ⟨g12,5,none⟩)),.is (.slice (some ad) 2 c5),.is (.pointer (some (ad.add ((0:Int).toNat*6)))),.fm m.f0,.fm m.f0,.is (.int .i64 0),.is (.bool true),.is (.bool true),.is (.bool true)] [83,84,85,86,87,88,89,90,91,92,93,94,95,96,97,98,99,100,101,102,103,104,105,8] _ V (by kernel_rfl) (by kernel_rfl) ⟨
         fun q V J hB hq h hi=>op_mv hi rfl rfl t13 (h _ _ rfl (.refl _ _)),
         fun q V J hB hq h hi=>op_mv hi rfl rfl f10 (h _ _ rfl (.refl _ _)),
         fun q V J hB hq h hi=>op_eqSS (x:=y3) hi rfl rfl (hq 0 rfl) (hq 1 rfl) (h _ _ rfl (.refl _ _)),
         fun q V J hB hq h hi=>op_mv hi rfl rfl (hq 2 rfl) (h _ _ rfl (.refl _ _)),
         fun q V J hB hq h hi=>wp_guard hi (wants_y rfl (congrArg some (hq 3 rfl))) fun o2 h2=>op_fa37 h2 rfl (by decide) rfl f12 (h _ _ rfl (.refl _ _)),
         fun q V J hB hq h hi=>wp_guard hi (wants_y rfl (congrArg some (hq 3 rfl))) fun o2 h2=>op_ld1 h2 rfl (by decide) rfl (hq 4 rfl) (blk_cell (blk_below hb12 (bw hB)) 0) (h _ _ rfl (.refl _ _)),
         fun q V J hB hq h hi=>wp_guard hi (wants_y rfl (congrArg some (hq 3 rfl))) fun o2 h2=>op_eqc (T:=3) (n:=5) (m:=5) (b:=true) h2 rfl (by decide) rfl (by decide) (hq 5 rfl) (h _ _ rfl (.refl _ _)),
         fun q V J hB hq h hi=>op_pickF hi rfl rfl (hq 3 rfl) (hq 6 rfl) (h _ _ rfl (.refl _ _)),
         fun q V J hB hq h hi=>op_mv hi rfl rfl (hq 7 rfl) (h _ _ rfl (.refl _ _)),
         fun q V J hB hq h hi=>wp_guard hi (wants_y rfl (congrArg some (hq 8 rfl))) fun o2 h2=>op_fa37 h2 rfl (by decide) rfl f12 (h _ _ rfl (.refl _ _)),
         fun q V J hB hq h hi=>wp_guard hi (wants_y rfl (congrArg some (hq 8 rfl))) fun o2 h2=>op_ld1 h2 rfl (by decide) rfl (hq 9 rfl) (blk_cell (blk_below hb12 (bw hB)) 5) (h _ _ rfl (.refl _ _)),
         fun q V J hB hq h hi=>wp_guard hi (wants_y rfl (congrArg some (hq 8 rfl))) fun o2 h2=>op_len35 h2 rfl rfl (hq 10 rfl) (h _ _ rfl (.refl _ _)),
         fun q V J hB hq h hi=>wp_guard hi (wants_y rfl (congrArg some (hq 8 rfl))) fun o2 h2=>op_eqc (T:=3) (n:=2) (m:=2) (b:=true) h2 rfl (by decide) rfl (by decide) (hq 11 rfl) (h _ _ rfl (.refl _ _)),
         fun q V J hB hq h hi=>op_pickF hi rfl rfl (hq 8 rfl) (hq 12 rfl) (h _ _ rfl (.refl _ _)),
         fun q V J hB hq h hi=>op_mv hi rfl rfl (hq 13 rfl) (h _ _ rfl (.refl _ _)),
         fun q V J hB hq h hi=>wp_guard hi (wants_y rfl (congrArg some (hq 14 rfl))) fun o2 h2=>op_fa37 h2 rfl (by decide) rfl f12 (h _ _ rfl (.refl _ _)),
         fun q V J hB hq h hi=>wp_guard hi (wants_y rfl (congrArg some (hq 14 rfl))) fun o2 h2=>op_ld1 h2 rfl (by decide) rfl (hq 15 rfl) (blk_cell (blk_below hb12 (bw hB)) 5) (h _ _ rfl (.refl _ _)),
         fun q V J hB hq h hi=>wp_guard hi (wants_y rfl (congrArg some (hq 14 rfl))) fun o2 h2=>op_ix35 h2 rfl rfl (eq_true (by decide)) (eq_true (by decide)) (hq 16 rfl) (h _ _ rfl (.refl _ _)),
         fun q V J hB hq h hi=>wp_guard hi (wants_y rfl (congrArg some (hq 14 rfl))) fun o2 h2=>op_ldF0 (F:=m.f0) h2 rfl rfl (hq 17 rfl) (pw_cell_below (bw hB) x0) (pw_cell_below (bw hB) x1) (pw_cell_below (bw hB) x2) (pw_cell_below (bw hB) x3) (pw_cell_below (bw hB) x4) (pw_cell_below (bw hB) x5) (FmC.below ⟨l2,g2,l5,g5⟩ (bw hB)) fun u hu=>h _ _ hu (.refl _ _),
         fun q V J hB hq h hi=>wp_guard hi (wants_y rfl (congrArg some (hq 14 rfl))) fun o2 h2=>op_loadF h2 rfl rfl f9 (hFV.below (bw hB)) fun u hu=>h _ _ hu (.refl _ _),
         fun q V J hB hq h hi=>wp_guard hi (wants_y rfl (congrArg some (hq 14 rfl))) fun o2 h2=>op_cmpF (F:=m.f0) h2 rfl rfl rfl rfl (hq 18 rfl) (hq 19 rfl) fun w1 hb=>h _ _ rfl hb,
         fun q V J hB hq h hi=>wp_guard hi (wants_y rfl (congrArg some (hq 14 rfl))) fun o2 h2=>op_eqc (T:=3) (n:=0) (m:=0) (b:=true) h2 rfl (by decide) rfl (by decide) (hq 20 rfl) (h _ _ rfl (.refl _ _)),
         fun q V J hB hq h hi=>op_pickF hi rfl rfl (hq 14 rfl) (hq 21 rfl) (h _ _ rfl (.refl _ _)),
         fun q V J hB hq h hi=>op_asg hi rfl rfl (hq 22 rfl) (h _ _ rfl (.refl _ _)),trivial⟩ ?_)
        intro q16 V16 hB16 hx16
        exact wp_ret (bodyPost_yes (show Tryz.f10.results= #[.tmp 8]from rfl) (hx16 23 (by decide)) rfl (below_step hB (bw hB16)))
end
end
set_option maxRecDepth 100000
section
theorem sum_mem {α:Type} {f:α→Nat} {x:α}:∀{l:List α},x∈l→f x≤sumOf f l
 |y::r,h=>by
  rcases List.mem_cons.1 h with rfl | h
  ·exact Nat.le_add_right _ _
  ·exact Nat.le_trans (sum_mem h) (Nat.le_add_left _ _)
theorem sum_ge {α:Type} {f:α→Nat} (h:∀x,1≤f x):∀l:List α,l.length≤sumOf f l
 | []=>Nat.le_refl _
 |y::r=>by have:=sum_ge h r;have:=h y;simp only[List.length_cons,sumOf];omega
theorem two {l:List Value} (h:l.length=2):∃a b,l=[a,b]:=by
 match l,h with
 | [a,b],_=>exact ⟨a,b,rfl⟩
instance inhB:Inhabited ByteArray:=⟨⟨#[]⟩⟩
instance inh105:Inhabited S105:=⟨z105⟩
instance inh107:Inhabited S107:=⟨z107⟩
def szS (y:ByteArray):Nat:=y.size+1
def sz105 (p:S105):Nat:=p.f0.size+p.f1.size+1
def sz107 (p:S107):Nat:=p.f0.size+sumOf szS p.f1+1
section
variable {H:Type} {enc:TypeId×Value→H} {w:World} {base:Nat} {spare:Nat→Bool} {held:Bool}
theorem open_str {fuel:Nat} {cs:List Value} {x:DataW H×List MemPlace} (h:DataW.trod enc Tryz.prog w base spare held fuel 9 cs=some x):∃s:ByteArray,cs=[.string s]∧szS s≤Rows.uptoBulk x.1:=by
 obtain ⟨s,hs,rfl,_⟩:=DataW.trod_string Tryz.underlying9 h
 refine ⟨s,hs,?_⟩
 have es:s.data.toList.length=s.size:=rfl
 unfold szS
 simp only[Rows.uptoBulk]
 omega
theorem open_strs {fuel:Nat} {cs:List Value} {x:DataW H×List MemPlace} (h:DataW.trod enc Tryz.prog w base spare held fuel 22 cs=some x):∃A xs c,cs=[.slice A xs.length c]∧xs.length≤c∧Kd.string.C w A xs.length xs∧sumOf szS xs+1≤Rows.uptoBulk x.1:=by
 obtain ⟨A,xs,c,ds,h1,h2,h3,h4,h5,h6⟩:=opened (kd:=Kd.string) (Q:=fun s d=>szS s≤Rows.uptoBulk d) Tryz.underlying22 (by kernel_rfl) h (fun n cs' y _ hy=>by
  obtain ⟨s,rfl,hb⟩:=open_str hy
  exact ⟨s,rfl,hb⟩)
 exact ⟨A,xs,c,h1,h2,h3,bulk_slice szS h4 h5 h6⟩
theorem open_con {fuel:Nat} {cs:List Value} {x:DataW H×List MemPlace} (h:DataW.trod enc Tryz.prog w base spare held fuel 105 cs=some x):∃p:S105,cs=[.string p.f0,.string p.f1]∧sz105 p≤Rows.uptoBulk x.1:=by
 obtain ⟨xs,n,rfl,rfl,hl,hlen,hf⟩:=DataW.trod_struct Tryz.underlying105 h
 obtain ⟨a,b,rfl⟩:=two (hl.trans (by kernel_rfl))
 match xs,hlen with
 | [y0,y1],_ =>
  have g0:DataW.trod enc Tryz.prog w base spare held n 9 [a]=some y0:=hf 0 _ rfl
  have g1:DataW.trod enc Tryz.prog w base spare held n 9 [b]=some y1:=hf 1 _ rfl
  obtain ⟨s,hs,b0⟩:=open_str g0
  obtain ⟨t,ht,b1⟩:=open_str g1
  injection hs with hs
  injection ht with ht
  subst hs
  subst ht
  refine ⟨⟨s,t⟩,rfl,?_⟩
  unfold szS at b0 b1
  unfold sz105
  simp only[List.map_cons,List.map_nil,Rows.uptoBulk,Rows.uptoBulkAll]
  omega
theorem open_prd {fuel:Nat} {cs:List Value} {x:DataW H×List MemPlace} (h:DataW.trod enc Tryz.prog w base spare held fuel 107 cs=some x):∃(p:S107) (A:Option Addr) (c:Nat),cs=[.string p.f0,.slice A p.f1.length c]∧p.f1.length≤c∧Kd.string.C w A p.f1.length p.f1∧sz107 p≤Rows.uptoBulk x.1:=by
 obtain ⟨xs,n,rfl,rfl,hl,hlen,hf⟩:=DataW.trod_struct Tryz.underlying107 h
 obtain ⟨a,b,rfl⟩:=two (hl.trans (by kernel_rfl))
 match xs,hlen with
 | [y0,y1],_ =>
  have g0:DataW.trod enc Tryz.prog w base spare held n 9 [a]=some y0:=hf 0 _ rfl
  have g1:DataW.trod enc Tryz.prog w base spare held n 22 [b]=some y1:=hf 1 _ rfl
  obtain ⟨s,hs,b0⟩:=open_str g0
  obtain ⟨A,ts,c,ht,l1,r1,b1⟩:=open_strs g1
  injection hs with hs
  injection ht with ht
  subst hs
  subst ht
  refine ⟨⟨s,ts⟩,A,c,rfl,l1,r1,?_⟩
  unfold szS at b0
  unfold sz107
  simp only[List.map_cons,List.map_nil,Rows.uptoBulk,Rows.uptoBulkAll]
  omega
theorem open_sig {fuel:Nat} {cs:List Value} {x:DataW H×List MemPlace} (h:DataW.trod enc Tryz.prog w base spare held fuel 26 cs=some x):∃s:Sg,cs=[.slice s.A0 s.ss.length s.c0,.slice s.A1 s.cs.length s.c1,.slice s.A2 s.ps.length s.c2]∧(Rows.uptoBulk x.1≤1048576→s.C w):=by
 obtain ⟨xs,n,rfl,rfl,hl,hlen,hf⟩:=DataW.trod_struct Tryz.underlying26 h
 obtain ⟨a,b,c,rfl⟩:=three (hl.trans (by kernel_rfl))
 match xs,hlen with
 | [y0,y1,y2],_ =>
  have g0:DataW.trod enc Tryz.prog w base spare held n 22 [a]=some y0:=hf 0 _ rfl
  have g1:DataW.trod enc Tryz.prog w base spare held n 23 [b]=some y1:=hf 1 _ rfl
  have g2:DataW.trod enc Tryz.prog w base spare held n 24 [c]=some y2:=hf 2 _ rfl
  obtain ⟨A0,ss,c0,e0,l0,r0,b0⟩:=open_strs g0
  obtain ⟨A1,cs1,c1,d1,e1,l1,r1,p1,q1,s1⟩:=opened (kd:=k105) (Q:=fun p d=>sz105 p≤Rows.uptoBulk d) Tryz.underlying23 (by kernel_rfl) g1 (fun n cs' y _ hy=>by
   obtain ⟨p,rfl,hb⟩:=open_con hy
   exact ⟨p,k105_mk w p,hb⟩)
  have b1:=bulk_slice sz105 p1 q1 s1
  obtain ⟨A2,ps,c2,d2,e2,l2,r2,p2,q2,s2⟩:=opened (kd:=k107) (Q:=fun p d=>sz107 p≤Rows.uptoBulk d) Tryz.underlying24 (by kernel_rfl) g2 (fun n cs' y _ hy=>by
   obtain ⟨p,A,c,rfl,hl,hC,hb⟩:=open_prd hy
   exact ⟨p,k107_mk w p hl hC,hb⟩)
  have b2:=bulk_slice sz107 p2 q2 s2
  injection e0 with e0
  injection e1 with e1
  injection e2 with e2
  subst e0
  subst e1
  subst e2
  refine ⟨⟨A0,c0,ss,A1,c1,cs1,A2,c2,ps⟩,rfl,fun hk=> ?_⟩
  simp only[List.map_cons,List.map_nil,Rows.uptoBulk,Rows.uptoBulkAll]at hk
  have n0:=sum_ge (f:=szS) (fun x=>by unfold szS;omega) ss
  have n1:=sum_ge (f:=sz105) (fun x=>by unfold sz105;omega) cs1
  have n2:=sum_ge (f:=sz107) (fun x=>by unfold sz107;omega) ps
  refine ⟨r0,l0,r1,l1,r2,l2,fun y hy=> ?_,fun y hy=> ?_,fun y hy=> ?_,by show ss.length≤2000000;omega,by show cs1.length≤2000000;omega,by show ps.length≤2000000;omega⟩
  ·have:szS y≤sumOf szS ss:=sum_mem hy
   have e:szS y=y.size+1:=rfl
   omega
  ·have:sz105 y≤sumOf sz105 cs1:=sum_mem hy
   have e:sz105 y=y.f0.size+y.f1.size+1:=rfl
   omega
  ·have h1:sz107 y≤sumOf sz107 ps:=sum_mem hy
   have e:sz107 y=y.f0.size+sumOf szS y.f1+1:=rfl
   have h2:=sum_ge (f:=szS) (fun x=>by unfold szS;omega) y.f1
   refine ⟨by omega,by omega,fun z hz=> ?_⟩
   have h3:=sum_mem (f:=szS) hz
   have e:szS z=z.size+1:=rfl
   omega
end
end
end Go.Proofs.YtcfjomnihhdpaaaGreatDoor.A
namespace Go.Proofs.YtcfjomnihhdpaaaGreatDoor
open Go
set_option maxRecDepth 100000
theorem seatTie1:Tryz.prog.laidByTextLater [("math/bits.deBruijn32tab",Rows.laid_math_bits_deBruijn32tab),("math/bits.deBruijn64tab",Rows.laid_math_bits_deBruijn64tab),("internal/strconv.uint64pow10",Rows.laid_internal_strconv_uint64pow10),("unicode/utf8.acceptRanges",Rows.laid_unicode_utf8_acceptRanges)] [.data,.data,.data,.data] true :=
 Program.laidByTextLater_by_one 34 8 65 (by kernel_rfl) (by kernel_rfl) (by kernel_rfl) (by kernel_rfl) (by kernel_rfl) (by kernel_rfl) (fun _ _=>by kernel_rfl)
theorem pin_laid_strconv_isGraphic:Tryz.pinned.checked.prog.pinnedFits "strconv.isGraphic" =true:=by kernel_rfl
theorem pin_laid_strconv_isNotPrint16:Tryz.pinned.checked.prog.pinnedFits "strconv.isNotPrint16" =true:=by kernel_rfl
theorem pin_laid_strconv_isNotPrint32:Tryz.pinned.checked.prog.pinnedFits "strconv.isNotPrint32" =true:=by kernel_rfl
theorem pin_laid_strconv_isPrint16:Tryz.pinned.checked.prog.pinnedFits "strconv.isPrint16" =true:=by kernel_rfl
theorem pin_laid_strconv_isPrint32:Tryz.pinned.checked.prog.pinnedFits "strconv.isPrint32" =true:=by kernel_rfl
theorem pin_laid_unicode_utf8_first:Tryz.pinned.checked.prog.pinnedFits "unicode/utf8.first" =true:=by kernel_rfl
theorem noOwnUnsafe:Tryz.pinned.checked.prog.headLifts.contains "ownunsafe" =false:=by kernel_rfl
theorem fits1:Tryz.pinned.checked.prog.listedFits [("math/bits.deBruijn32tab",Rows.laid_math_bits_deBruijn32tab),("math/bits.deBruijn64tab",Rows.laid_math_bits_deBruijn64tab),("internal/strconv.uint64pow10",Rows.laid_internal_strconv_uint64pow10),("unicode/utf8.acceptRanges",Rows.laid_unicode_utf8_acceptRanges),("strconv.isGraphic",Rows.laid_strconv_isGraphic),("strconv.isNotPrint16",Rows.laid_strconv_isNotPrint16),("strconv.isNotPrint32",Rows.laid_strconv_isNotPrint32),("strconv.isPrint16",Rows.laid_strconv_isPrint16),("strconv.isPrint32",Rows.laid_strconv_isPrint32),("unicode/utf8.first",Rows.laid_unicode_utf8_first)]=true:=by
 unfold Program.listedFits
 rw[noOwnUnsafe]
 kernel_rfl
theorem tie:Tryz.prog.laidByTextLater [("math/bits.deBruijn32tab",Rows.laid_math_bits_deBruijn32tab),("math/bits.deBruijn64tab",Rows.laid_math_bits_deBruijn64tab),("internal/strconv.uint64pow10",Rows.laid_internal_strconv_uint64pow10),("unicode/utf8.acceptRanges",Rows.laid_unicode_utf8_acceptRanges)] [.data,.data,.data,.data] true :=
 Program.laidByTextLater.sub seatTie1 ["math/bits.deBruijn32tab", "math/bits.deBruijn64tab", "internal/strconv.uint64pow10", "unicode/utf8.acceptRanges"] (by kernel_rfl) (by kernel_rfl)
theorem semanticsNounsUpto_row_tie:Rows.semanticsNounsUptoRow.laidByTextAt .later Tryz.pinned [.data,.data,.data,.data,.pinned,.pinned,.pinned,.pinned,.pinned,.pinned] true :=
 OpenClaim.laidByTextAt_pinned rfl rfl tie rfl rfl rfl rfl (fun y hy _e=>by
  simp only[Rows.semanticsNounsUptoRow,List.zip_cons_cons,List.zip_nil_right,List.mem_cons,List.mem_nil_iff,or_false]at hy
  rcases hy with rfl | rfl | rfl | rfl | rfl | rfl | rfl | rfl | rfl | rfl
  ·cases _e
  ·cases _e
  ·cases _e
  ·cases _e
  ·exact ⟨pin_laid_strconv_isGraphic,by kernel_rfl⟩
  ·exact ⟨pin_laid_strconv_isNotPrint16,by kernel_rfl⟩
  ·exact ⟨pin_laid_strconv_isNotPrint32,by kernel_rfl⟩
  ·exact ⟨pin_laid_strconv_isPrint16,by kernel_rfl⟩
  ·exact ⟨pin_laid_strconv_isPrint32,by kernel_rfl⟩
  ·exact ⟨pin_laid_unicode_utf8_first,by kernel_rfl⟩) fits1
end Go.Proofs.YtcfjomnihhdpaaaGreatDoor
