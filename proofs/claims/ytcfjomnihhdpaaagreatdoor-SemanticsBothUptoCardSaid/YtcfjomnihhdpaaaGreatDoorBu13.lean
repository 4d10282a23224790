/-
  A part of the proof: Q21, Q22, R67, R68.
-/
import Derived.Laws.EntriesVeiled
import Derived.StillTailTactics
import Derived.Deep.RegionLaw
import Derived.BigQuiet
import Derived.BigRegion
import Derived.OrdersIn
import Derived.ControlIn
import Derived.RangeFuncNested
import Derived.RangeFuncBound
import Derived.RangeFuncLeaves
import Derived.Test.YtcfjomnihhdpaaaGreatDoorBu12
namespace Go.Proofs.YtcfjomnihhdpaaaGreatDoor.A
open Go.RowKit Go.Proofs.YtcfjomnihhdpaaaGreatDoorW.PrintWords Go.Proofs.YtcfjomnihhdpaaaGreatDoorW.PrintLast Go.Proofs.YtcfjomnihhdpaaaGreatDoorW.PrintMore
set_option linter.unusedVariables false
set_option linter.unusedSimpArgs false
section
attribute [local go_sem] Oper.semAt_some
theorem to_K {c:Code} {Q:Exit→Act→World→Prop} {g0:Nat→Value} {W w:World} {t:S30} (h:∀g,K100 w t g→c.wp Tryz.prog Q (frN 104 g) W) (hg:K100 w t g0):c.wp Tryz.prog Q (frN 104 g0) W:=h _ hg
def Kb.tre (t:S30):Kb:=⟨fun v w pr=>∃A a B b,v= .agg #[.string t.f0,.slice A t.f1.length a,.slice B t.f2.length b]∧TreeF w (fun k=>¬pr k) t A a B b,fun v w pr w' pr' h hc=>by
 obtain ⟨A,a,B,b,e,h⟩:=h
 exact ⟨A,a,B,b,e,((h.mono (ok' :=fun k=>¬pr k∧k<w.heap.size) (fun k hk hlt=>⟨hk,hlt⟩)).step (fun k hk hlt=>hc.block k hlt hk.1)).mono (fun k hk _ hp=>hk.1 ((hc.pr k hk.2).1 hp))⟩⟩
def Kb.tup (t:S30) (c:Bool):Kb:=⟨fun v w pr=>∃u,v= .tuple #[u,.bool c]∧(Kb.tre t).In u w pr,fun v w pr w' pr' h hc=>h.imp fun u h=>⟨h.1,(Kb.tre t).st _ _ _ _ _ h.2 hc⟩⟩
section
variable {ops:Array Oper} {Q:Exit→Act→World→Prop} {R:Act→World→Prop} {RP:World→Prop} {i:Nat} {o:Oper} {J:Act→World→Prop} {a:Act} {w:World}
theorem op_new30 (hi:ops[i]? =some o) (hg:o.guard=none) (ho:o.op= .alloc 30) (h:J (a.put o.dst (.pointer (some ⟨w.heap.size,0,none⟩))) (w.alloc (.cells #[.string ⟨#[]⟩,.slice none 0 0,.slice none 0 0] 30))):wpOp Tryz.prog ops Q i J a w:=by
 refine op_value hi (wanted_none hg) ?_ h
 unfold execOp
 rw[ho]
 go_simp
theorem op_wth {k1 k2:Tmp} {ts:Array TypeId} {t np:S30} {W:World} {A1 A2 N1 N2:Option Addr} {c1 c2 n1 n2:Nat} {pr:Nat→Prop} (hi:ops[i]? =some o) (hg:o.guard=none) (ho:o.op= .call {callee:= .value (.func 21),args:= #[.tmp k1,.tmp k2],argTypes:=ts}) (h1:a.tmps[k1]?.getD undef= .agg #[.string t.f0,.slice A1 t.f1.length c1,.slice A2 t.f2.length c2]) (h2:a.tmps[k2]?.getD undef= .agg #[.string np.f0,.slice N1 np.f1.length n1,.slice N2 np.f2.length n2]) (hsm:Sm t) (hB:Below W.heap.size W w) (tv:TreeV W t A1 c1 A2 c2) (nv:TreeV W np N1 n1 N2 n2) (hpr:∀k,pr k→W.heap.size≤k∧k<w.heap.size)
  (h:∀v w',(Kb.tup ((withP t np).getD z30) (withP t np).isSome).In v w' pr→Below w.heap.size w w' →J (a.put o.dst v) w'):wpOp Tryz.prog ops Q i J a w:=by
 refine op_call hi (wanted_none hg) (op_run21 ho h1 h2) ((with_calls np (nodes t) t (Nat.le_refl _) hsm W w A1 c1 A2 c2 N1 n1 N2 n2 hB tv nv).mono fun e w' hr=> ?_)
 obtain ⟨hb,hr⟩:=hr
 cases hq:withP t np with
 |none =>
  rw[hq]at hr h
  obtain rfl:=hr
  exact ⟨_,rfl,h _ _ ⟨_,rfl,none,0,none,0,rfl,Nat.le_refl _,fun _ _=>Kd.C_nil _ _,Nat.le_refl _,fun _ _=>Kd.C_nil _ _⟩ hb⟩
 |some s =>
  rw[hq]at hr h
  obtain ⟨Y1,g1,Y2,g2,rfl,hx⟩:=hr
  exact ⟨_,rfl,h _ _ ⟨_,rfl,Y1,g1,Y2,g2,rfl,hx.mono (fun k hk _ hp=>by have:=hpr k hp;omega)⟩ hb⟩
theorem op_fail {k:Tmp} (hi:ops[i]? =some o) (hg:o.guard=none) (ho:o.op= .makeInterface 117 (.const (.int .i64 6))) (h:J (a.put o.dst (.iface 117 (.int .i64 6))) w):wpOp Tryz.prog ops Q i J a w:=by
 refine op_value hi (wanted_none hg) (w' :=w) ?_ h
 unfold execOp
 rw[ho]
 go_simp
theorem op_panic {k:Tmp} (hi:ops[i]? =some o) (hg:o.guard=none) (ho:o.op= .panic (.tmp k)) (ha:a.tmps[k]?.getD undef= .iface 117 (.int .i64 6)) (h:Q (.panic failV) a w):wpOp Tryz.prog ops Q i J a w:=by
 refine wpOp_step hi (fun K hK=> ?_)
 rw[if_pos (wanted_none hg)]
 unfold failV at h
 unfold Oper.wp execOp
 rw[ho]
 go_simp
 exact h
end
theorem TreeAt.cells_ {w w1:World} {Bt:Nat} {t:S30} {A1:Option Addr} {c1:Nat} {A2:Option Addr} {c2:Nat} {mb:Nat} {en:Ents} (h:TreeAt w Bt t A1 c1 A2 c2) (hk:Kp w w1 (fun k=>k=mb)) (hm:MapE w mb en):TreeAt w1 Bt t A1 c1 A2 c2 :=
 ⟨hk.blk_ hm h.blk,h.l1,(cells_int .i64).C (hk.cells hm) h.v,h.l2,k30_cells.C (hk.cells hm) h.k⟩
set_option maxHeartbeats 16000000 in
set_option maxRecDepth 100000 in
theorem build_step (T:Lib.PrintTabs) (s:Sg) (n N:Nat) (h56:SentC T s 56 n N):SentC T s 100 (n+1) (N+N):=by
 intro t hn h60 hf hres hsm w0 w bp mb R en A1 c1 A2 c2 hE hM tv hN
 have hmb:=hM.lt
 refine calls_frN 104 (fun j=>match j with | 0=> .pointer (some ⟨bp,0,none⟩) | 1=> .agg #[.string t.f0,.slice A1 t.f1.length c1,.slice A2 t.f2.length c2] | _=>undef) Tryz.func100 (show Tryz.f100.body=some _ from rfl) (by kernel_rfl) ?_
 refine wp_seq (wp_region_list (list_op (i:=0) rfl (op_box73 rfl rfl rfl rfl fun u1 xb hb1 hs1=>fop rfl (by decide) (list_op (i:=1) rfl (op_box30 rfl rfl rfl rfl fun u2 xt hb2 hs2=>fop rfl (by decide) (list_op (i:=2) rfl (op_new70 rfl rfl rfl fun W2 xr hb3=>fop rfl (by decide) ?_)))))))
 rw[hs1]at xt hs2 ⊢
 rw[hs2]at xr ⊢
 replace xt:=blk_below xt hb3
 replace xb:=(xb.below hb2).below hb3
 have hB2:=below_step (below_step hb1 hb2) hb3
 have hsz:=blk_lt xr
 have tv2:=tv.below hB2
 have E:E100 T s w0 w W2 bp mb R en t A1 c1 A2 c2:=⟨hE.below hB2,hM.bound.below hB2,xb,⟨xt,tv2.l1,tv2.v,tv2.l2,tv2.k⟩,xr,hB2,hsz,hmb,hM.nR⟩
 refine wp_seq (wp_region_list (list_op (i:=0) rfl (op_mf2 rfl rfl rfl rfl rfl (fop rfl (by decide) (list_op (i:=1) rfl (op_asg rfl rfl rfl rfl (fop rfl (by decide) ?_)))))))
 refine wp_seq (wp_region_list (list_op (i:=0) rfl (op_mf2 rfl rfl rfl rfl rfl (fop rfl (by decide) (list_op (i:=1) rfl (op_asg rfl rfl rfl rfl (fop rfl (by decide) ?_)))))))
 refine wp_seq (wp_region_list (list_op (i:=0) rfl (op_mf2 rfl rfl rfl rfl rfl (fop rfl (by decide) (list_op (i:=1) rfl (op_asg rfl rfl rfl rfl (fop rfl (by decide) ?_)))))))
 refine wp_seq (wp_seq (wp_region_list (list_op (i:=0) rfl (op_fa0 rfl rfl rfl rfl (fop rfl (by decide) (list_op (i:=1) rfl (op_ld9 rfl rfl rfl rfl (blk_cell E.tree.blk 0) (fop rfl (by decide) (wp_block ?_)))))))))
 refine to_K (w:=w) (t:=t) (fun g hg=> ?_) ⟨rfl,rfl,rfl,rfl,rfl,rfl,rfl⟩
 clear xt xb hB2 hsz tv2 hb1 hb2 hb3 hs1 hs2 xr hM tv
 obtain ⟨_,hsh⟩:=shape_S hf
 rcases hsh with ⟨e0,hl,hlv,hf0,hf1⟩ | hsh
 ·refine wp_sw true rfl rfl rfl rfl rfl rfl (by decide) (by decide) hg.f14 (by rw[e0];decide +kernel) fun g' e=> ?_
  replace hg:=hg.eq e
  clear e
  rw[if_pos rfl]
  have HR:sentP s (n+1) t=modalP s 0 false t:=by rw[sentP];(repeat rw[if_neg (by rw[e0];decide +kernel)]);rw[if_pos e0]
  refine seq_fin (T:=T) (s:=s) (w:=w) (mb:=mb) (L:=en.length+(N+N)) (R:=R) (r:=sentP s (n+1) t) (fun a' V' h1 h2 h3=>h3.end_ (show Tryz.f100.results= #[.cell 4 70]from rfl) h1 h2) (fun a' V' hd e hk=>⟨hd,by rw[e];exact SentRet.no hk⟩) ?_
  refine wp_region_list (list_op (i:=0) rfl (op_mv rfl rfl rfl hg.f5 (fop rfl (by decide) (list_op (i:=1) rfl (op_fvS (vs:= #[.int .i64 0,.bool false]) rfl rfl rfl rfl (by simp only[List.map_toArray,List.map_cons,List.map_nil];rfl) (enters_of Tryz.func144 (by kernel_rfl) rfl) ((modal_calls s t 0 false W2 bp mb _ _ A1 c1 A2 c2 E.env.bld E.box E.tree hE.ar hres hl hf0 hf1).mono fun e w' h=>SentRet.of_post E.mapQ h) rfl (fun e w' hk=>⟨HR.trans e,E.kp hk⟩) (fun k hk=> .inr hk) E.mapQ.nR fun u V1 hu hk1 hI1=>fop rfl (by decide) (list_op (i:=2) rfl (op_st70G rfl rfl rfl rfl hg.f4 rfl (Nine.zero (E.cK hk1 E.res)) hu (fun k hk=>by have:=E.sz;rcases hk with hk | hk;have:=hk.2;omega;omega) fun m V2 e hm2 hk2 hs2=> ?_)))))))
  exact ⟨hg.f4,rfl,E.st hk1 (hI1.imp fun _ h=>⟨h.1,by have h9:=h.2;omega⟩) (HR.trans e) hm2 hk2⟩
 refine wp_sw false rfl rfl rfl rfl rfl rfl (by decide) (by decide) hg.f14 (by rcases hsh with ⟨e,_⟩ | ⟨e,_⟩ | ⟨e,_⟩ | ⟨e,_⟩ | ⟨e,_⟩ | ⟨e,_⟩ | ⟨e,_⟩ | ⟨e,_⟩ | ⟨e,_⟩ | ⟨e,_⟩ | ⟨e,_⟩<;>rw[e]<;>decide +kernel) fun g' e=> ?_
 replace hg:=hg.eq e
 clear e
 rw[if_neg Bool.false_ne_true]
 rcases hsh with ⟨e0,hl,hlv,hf0,hf1⟩ | hsh
 ·refine wp_sw true rfl rfl rfl rfl rfl rfl (by decide) (by decide) hg.f14 (by rw[e0];decide +kernel) fun g' e=> ?_
  replace hg:=hg.eq e
  clear e
  rw[if_pos rfl]
  have HR:sentP s (n+1) t=modalP s 11 false t:=by rw[sentP];(repeat rw[if_neg (by rw[e0];decide +kernel)]);rw[if_pos e0]
  refine seq_fin (T:=T) (s:=s) (w:=w) (mb:=mb) (L:=en.length+(N+N)) (R:=R) (r:=sentP s (n+1) t) (fun a' V' h1 h2 h3=>h3.end_ (show Tryz.f100.results= #[.cell 4 70]from rfl) h1 h2) (fun a' V' hd e hk=>⟨hd,by rw[e];exact SentRet.no hk⟩) ?_
  refine wp_region_list (list_op (i:=0) rfl (op_mv rfl rfl rfl hg.f5 (fop rfl (by decide) (list_op (i:=1) rfl (op_fvS (vs:= #[.int .i64 11,.bool false]) rfl rfl rfl rfl (by simp only[List.map_toArray,List.map_cons,List.map_nil];rfl) (enters_of Tryz.func144 (by kernel_rfl) rfl) ((modal_calls s t 11 false W2 bp mb _ _ A1 c1 A2 c2 E.env.bld E.box E.tree hE.ar hres hl hf0 hf1).mono fun e w' h=>SentRet.of_post E.mapQ h) rfl (fun e w' hk=>⟨HR.trans e,E.kp hk⟩) (fun k hk=> .inr hk) E.mapQ.nR fun u V1 hu hk1 hI1=>fop rfl (by decide) (list_op (i:=2) rfl (op_st70G rfl rfl rfl rfl hg.f4 rfl (Nine.zero (E.cK hk1 E.res)) hu (fun k hk=>by have:=E.sz;rcases hk with hk | hk;have:=hk.2;omega;omega) fun m V2 e hm2 hk2 hs2=> ?_)))))))
  exact ⟨hg.f4,rfl,E.st hk1 (hI1.imp fun _ h=>⟨h.1,by have h9:=h.2;omega⟩) (HR.trans e) hm2 hk2⟩
 refine wp_sw false rfl rfl rfl rfl rfl rfl (by decide) (by decide) hg.f14 (by rcases hsh with ⟨e,_⟩ | ⟨e,_⟩ | ⟨e,_⟩ | ⟨e,_⟩ | ⟨e,_⟩ | ⟨e,_⟩ | ⟨e,_⟩ | ⟨e,_⟩ | ⟨e,_⟩ | ⟨e,_⟩<;>rw[e]<;>decide +kernel) fun g' e=> ?_
 replace hg:=hg.eq e
 clear e
 rw[if_neg Bool.false_ne_true]
 rcases hsh with ⟨e0,hl,hlv,hf0,hf1⟩ | hsh
 ·refine wp_sw true rfl rfl rfl rfl rfl rfl (by decide) (by decide) hg.f14 (by rw[e0];decide +kernel) fun g' e=> ?_
  replace hg:=hg.eq e
  clear e
  rw[if_pos rfl]
  have HR:sentP s (n+1) t=modalP s 11 true t:=by rw[sentP];(repeat rw[if_neg (by rw[e0];decide +kernel)]);rw[if_pos e0]
  refine seq_fin (T:=T) (s:=s) (w:=w) (mb:=mb) (L:=en.length+(N+N)) (R:=R) (r:=sentP s (n+1) t) (fun a' V' h1 h2 h3=>h3.end_ (show Tryz.f100.results= #[.cell 4 70]from rfl) h1 h2) (fun a' V' hd e hk=>⟨hd,by rw[e];exact SentRet.no hk⟩) ?_
  refine wp_region_list (list_op (i:=0) rfl (op_mv rfl rfl rfl hg.f5 (fop rfl (by decide) (list_op (i:=1) rfl (op_fvS (vs:= #[.int .i64 11,.bool true]) rfl rfl rfl rfl (by simp only[List.map_toArray,List.map_cons,List.map_nil];rfl) (enters_of Tryz.func144 (by kernel_rfl) rfl) ((modal_calls s t 11 true W2 bp mb _ _ A1 c1 A2 c2 E.env.bld E.box E.tree hE.ar hres hl hf0 hf1).mono fun e w' h=>SentRet.of_post E.mapQ h) rfl (fun e w' hk=>⟨HR.trans e,E.kp hk⟩) (fun k hk=> .inr hk) E.mapQ.nR fun u V1 hu hk1 hI1=>fop rfl (by decide) (list_op (i:=2) rfl (op_st70G rfl rfl rfl rfl hg.f4 rfl (Nine.zero (E.cK hk1 E.res)) hu (fun k hk=>by have:=E.sz;rcases hk with hk | hk;have:=hk.2;omega;omega) fun m V2 e hm2 hk2 hs2=> ?_)))))))
  exact ⟨hg.f4,rfl,E.st hk1 (hI1.imp fun _ h=>⟨h.1,by have h9:=h.2;omega⟩) (HR.trans e) hm2 hk2⟩
 refine wp_sw false rfl rfl rfl rfl rfl rfl (by decide) (by decide) hg.f14 (by rcases hsh with ⟨e,_⟩ | ⟨e,_⟩ | ⟨e,_⟩ | ⟨e,_⟩ | ⟨e,_⟩ | ⟨e,_⟩ | ⟨e,_⟩ | ⟨e,_⟩ | ⟨e,_⟩<;>rw[e]<;>decide +kernel) fun g' e=> ?_
 replace hg:=hg.eq e
 clear e
 rw[if_neg Bool.false_ne_true]
 rcases hsh with ⟨e0,hl,hlv,hf0,hf1⟩ | hsh
 ·refine wp_sw true rfl rfl rfl rfl rfl rfl (by decide) (by decide) hg.f14 (by rw[e0];decide +kernel) fun g' e=> ?_
  replace hg:=hg.eq e
  clear e
  rw[if_pos rfl]
  have HR:sentP s (n+1) t=modalP s 12 false t:=by rw[sentP];(repeat rw[if_neg (by rw[e0];decide +kernel)]);rw[if_pos e0]
  refine seq_fin (T:=T) (s:=s) (w:=w) (mb:=mb) (L:=en.length+(N+N)) (R:=R) (r:=sentP s (n+1) t) (fun a' V' h1 h2 h3=>h3.end_ (show Tryz.f100.results= #[.cell 4 70]from rfl) h1 h2) (fun a' V' hd e hk=>⟨hd,by rw[e];exact SentRet.no hk⟩) ?_
  refine wp_region_list (list_op (i:=0) rfl (op_mv rfl rfl rfl hg.f5 (fop rfl (by decide) (list_op (i:=1) rfl (op_fvS (vs:= #[.int .i64 12,.bool false]) rfl rfl rfl rfl (by simp only[List.map_toArray,List.map_cons,List.map_nil];rfl) (enters_of Tryz.func144 (by kernel_rfl) rfl) ((modal_calls s t 12 false W2 bp mb _ _ A1 c1 A2 c2 E.env.bld E.box E.tree hE.ar hres hl hf0 hf1).mono fun e w' h=>SentRet.of_post E.mapQ h) rfl (fun e w' hk=>⟨HR.trans e,E.kp hk⟩) (fun k hk=> .inr hk) E.mapQ.nR fun u V1 hu hk1 hI1=>fop rfl (by decide) (list_op (i:=2) rfl (op_st70G rfl rfl rfl rfl hg.f4 rfl (Nine.zero (E.cK hk1 E.res)) hu (fun k hk=>by have:=E.sz;rcases hk with hk | hk;have:=hk.2;omega;omega) fun m V2 e hm2 hk2 hs2=> ?_)))))))
  exact ⟨hg.f4,rfl,E.st hk1 (hI1.imp fun _ h=>⟨h.1,by have h9:=h.2;omega⟩) (HR.trans e) hm2 hk2⟩
 refine wp_sw false rfl rfl rfl rfl rfl rfl (by decide) (by decide) hg.f14 (by rcases hsh with ⟨e,_⟩ | ⟨e,_⟩ | ⟨e,_⟩ | ⟨e,_⟩ | ⟨e,_⟩ | ⟨e,_⟩ | ⟨e,_⟩ | ⟨e,_⟩<;>rw[e]<;>decide +kernel) fun g' e=> ?_
 replace hg:=hg.eq e
 clear e
 rw[if_neg Bool.false_ne_true]
 rcases hsh with ⟨e0,hl,hlv,hf0⟩ | hsh
 ·refine wp_sw true rfl rfl rfl rfl rfl rfl (by decide) (by decide) hg.f14 (by rw[e0];decide +kernel) fun g' e=> ?_
  replace hg:=hg.eq e
  clear e
  rw[if_pos rfl]
  have HR:sentP s (n+1) t=(sentP s n (kidOf t 0)).map (timeP (rd t.f1 0) (rd t.f1 1)):=by rw[sentP];(repeat rw[if_neg (by rw[e0];decide +kernel)]);rw[if_pos e0]
  obtain ⟨aa,rfl,_⟩:=E.tree.v.2.2 (by omega)
  have yv0:=Kd.foot_int E.tree.v 0 (Int.le_refl _) (by omega)
  have yv1:=Kd.foot_int E.tree.v 1 (by omega) (by omega)
  refine seq_fin (T:=T) (s:=s) (w:=w) (mb:=mb) (L:=en.length+(N+N)) (R:=R) (r:=sentP s (n+1) t) (fun a' V' h1 h2 h3=>h3.end_ (show Tryz.f100.results= #[.cell 4 70]from rfl) h1 h2) (fun a' V' hd e hk=>⟨hd,by rw[e];exact SentRet.no hk⟩) ?_
  have kd:∀{V},Kp W2.drew V (fun k=>k=mb)→Kp W2 V (fun k=>k=mb):=fun hK=>(Kp.of_below (below_drew (Below.refl _ _)) _).then_ hK (fun k h=> .inl h)
  have ge:∀{V},Kp W2.drew V (fun k=>k=mb)→∀k,V.heap.size≤k→(fun k=>(R k∧k<w.heap.size)∨W2.heap.size≤k) k:=fun hK k hk=> .inr (Nat.le_trans (kd hK).size hk)
  have hm2:∀{m l},m<1→l≤en.length+m*N→l+N<2 ^ 62:=fun {m l} hm hl=>by
   have h:=Nat.mul_le_mul_right N (show m≤0 by omega)
   omega
  have nS:∀k,k=mb→¬(fun k=>(R k∧k<w.heap.size)∨W2.heap.size≤k) k:=fun k e h=>E.mapQ.nR (e▸h)
  refine region_kg (S:=fun k=>k=mb) 10 104 (fun m V=>∃en',MapInv T s V mb (fun k=>(R k∧k<w.heap.size)∨W2.heap.size≤k) en' ∧en'.length≤en.length+m*N) [.is (.func (.func 147) #[] #[.pointer (some ⟨w.heap.size,0,none⟩),.pointer (some ⟨(w.heap.size+1),0,none⟩)]),.is (.pointer (some ⟨w.heap.size+1,1,none⟩)),.is (.slice (some aa) t.f1.length c1),.is (.pointer (some (aa.add (0:Int).toNat))),.is (.int .i64 (rd t.f1 0)),.is (.pointer (some ⟨w.heap.size+1,1,none⟩)),.is (.slice (some aa) t.f1.length c1),.is (.pointer (some (aa.add (1:Int).toNat))),.is (.int .i64 (rd t.f1 1)),.mn (fun k=>(R k∧k<w.heap.size)∨W2.heap.size≤k) nS (sentP s (n+1) t)] [9] [33,34,35,36,37,38,39,40,41,42,999] _ W2 rfl (by kernel_rfl) (by kernel_rfl) (by kernel_rfl) (by decide) (by decide) (fun m w w' h hB=>by obtain ⟨en',h1,h2⟩:=h;exact ⟨en',h1.below hB,h2⟩) ⟨en,E.mapQ.below (below_drew (Below.refl _ _)),by omega⟩ ⟨
     fun q V J hK hq h hi=>op_mv hi rfl rfl hg.f6 (h _ _ rfl (.refl _ _)),
   fun q V J hK hq h hi=>op_fa1 hi rfl rfl hg.f3 (h _ _ rfl (.refl _ _)),
   fun q V J hK hq h hi=>op_ld27 hi rfl rfl (hq 1 rfl) (blk_cell (E.cK (kd hK) E.tree.blk) 1) (h _ _ rfl (.refl _ _)),
   fun q V J hK hq h hi=>op_ix27 hi rfl rfl (eq_true (by decide)) (eq_true (by omega)) (hq 2 rfl) (h _ _ rfl (.refl _ _)),
   fun q V J hK hq h hi=>op_ld3c hi rfl rfl (hq 3 rfl) (E.cC (kd hK) _ _ yv0) (h _ _ rfl (.refl _ _)),
   fun q V J hK hq h hi=>op_fa1 hi rfl rfl hg.f3 (h _ _ rfl (.refl _ _)),
   fun q V J hK hq h hi=>op_ld27 hi rfl rfl (hq 5 rfl) (blk_cell (E.cK (kd hK) E.tree.blk) 1) (h _ _ rfl (.refl _ _)),
   fun q V J hK hq h hi=>op_ix27 hi rfl rfl (eq_true (by decide)) (eq_true (by omega)) (hq 6 rfl) (h _ _ rfl (.refl _ _)),
   fun q V J hK hq h hi=>op_ld3c hi rfl rfl (hq 7 rfl) (E.cC (kd hK) _ _ yv1) (h _ _ rfl (.refl _ _)),
   fun q V J m hm hK hG hq h hi=>by
    obtain ⟨en',h1,h2⟩:=hG
    exact op_fvS (L:=en'.length+N) (vs:= #[.int .i64 (rd t.f1 0),.int .i64 (rd t.f1 1)]) hi rfl rfl (hq 0 rfl) (by simp only[List.map_toArray,List.map_cons,List.map_nil];show #[q 4,q 8]=_;rw[show q 4=_ from hq 4 rfl,show q 8=_ from hq 8 rfl]) (enters_of Tryz.func147 (by kernel_rfl) rfl) (HR▸during_calls T s n N h56 (rd t.f1 0) (rd t.f1 1) t hn (by omega) hres hsm hl hf0 w0 V bp mb _ _ (fun k=>(R k∧k<w.heap.size)∨W2.heap.size≤k) en' _ c1 A2 c2 (E.env.kp E.map.map (kd hK)) h1 (E.cK (kd hK) E.box) (E.tree.cells_ (kd hK) E.map.map) (hm2 hm h2)) rfl (fun e w' hk=>⟨e,E.kp ((kd hK).then_ hk (fun k h=> .inl h))⟩) (ge hK) h1.nR (fun v w' a1 a2 a3=>h v w' a1 a2 (a3.imp fun _ h=>⟨h.1,by have h9:=h.2;rw[Nat.succ_mul];omega⟩)),trivial⟩ ?_
  intro o q V hi hK hG hx2
  injection hi with hi2
  subst hi2
  refine op_st70G rfl rfl rfl rfl hg.f4 rfl (Nine.zero (E.cK (kd hK) E.res)) (hx2 9 (by decide)) (fun k hk=>by have:=E.sz;rcases hk with hk | hk;have:=hk.2;omega;omega) fun m w' e hm hs hz=>⟨hg.f4,rfl,E.st (kd hK) (by obtain ⟨en',h1,h2⟩:=hG;exact ⟨en',h1,Nat.le_trans h2 (by show en.length+1*N≤_;omega)⟩) (e) hm hs⟩
 refine wp_sw false rfl rfl rfl rfl rfl rfl (by decide) (by decide) hg.f14 (by rcases hsh with ⟨e,_⟩ | ⟨e,_⟩ | ⟨e,_⟩ | ⟨e,_⟩ | ⟨e,_⟩ | ⟨e,_⟩ | ⟨e,_⟩<;>rw[e]<;>decide +kernel) fun g' e=> ?_
 replace hg:=hg.eq e
 clear e
 rw[if_neg Bool.false_ne_true]
 rcases hsh with ⟨e0,hl,hlv,hf0⟩ | hsh
 ·refine wp_sw true rfl rfl rfl rfl rfl rfl (by decide) (by decide) hg.f14 (by rw[e0];decide +kernel) fun g' e=> ?_
  replace hg:=hg.eq e
  clear e
  rw[if_pos rfl]
  have HR:sentP s (n+1) t=(sentP s n (kidOf t 0)).map (timeP (rd t.f1 0) (-1)):=by rw[sentP];(repeat rw[if_neg (by rw[e0];decide +kernel)]);rw[if_pos e0]
  obtain ⟨aa,rfl,_⟩:=E.tree.v.2.2 (by omega)
  have yv0:=Kd.foot_int E.tree.v 0 (Int.le_refl _) (by omega)
  refine seq_fin (T:=T) (s:=s) (w:=w) (mb:=mb) (L:=en.length+(N+N)) (R:=R) (r:=sentP s (n+1) t) (fun a' V' h1 h2 h3=>h3.end_ (show Tryz.f100.results= #[.cell 4 70]from rfl) h1 h2) (fun a' V' hd e hk=>⟨hd,by rw[e];exact SentRet.no hk⟩) ?_
  refine wp_region_list (list_op (i:=0) rfl (op_mv rfl rfl rfl hg.f6 (fop rfl (by decide) (list_op (i:=1) rfl (op_fa1 rfl rfl rfl hg.f3 (fop rfl (by decide) (list_op (i:=2) rfl (op_ld27 rfl rfl rfl rfl (blk_cell E.tree.blk 1) (fop rfl (by decide) (list_op (i:=3) rfl (op_ix27 rfl rfl rfl (eq_true (by decide)) (eq_true (by omega)) rfl (fop rfl (by decide) (list_op (i:=4) rfl (op_ld3c rfl rfl rfl rfl yv0 (fop rfl (by decide) (list_op (i:=5) rfl (op_fvS (vs:= #[.int .i64 (rd t.f1 0),.int .i64 (-1)]) rfl rfl rfl rfl (by simp only[List.map_toArray,List.map_cons,List.map_nil];rfl) (enters_of Tryz.func147 (by kernel_rfl) rfl) (during_calls T s n N h56 (rd t.f1 0) (-1) t hn (by omega) hres hsm hl hf0 w0 W2 bp mb _ _ _ en _ c1 A2 c2 E.env E.mapQ E.box E.tree (by omega)) rfl (fun e w' hk=>⟨HR.trans e,E.kp hk⟩) (fun k hk=> .inr hk) E.mapQ.nR fun u V1 hu hk1 hI1=>fop rfl (by decide) (list_op (i:=6) rfl (op_st70G rfl rfl rfl rfl hg.f4 rfl (Nine.zero (E.cK hk1 E.res)) hu (fun k hk=>by have:=E.sz;rcases hk with hk | hk;have:=hk.2;omega;omega) fun m V2 e hm2 hk2 hs2=> ?_)))))))))))))))))))
  exact ⟨hg.f4,rfl,E.st hk1 (hI1.imp fun _ h=>⟨h.1,by have h9:=h.2;omega⟩) (HR.trans e) hm2 hk2⟩
 refine wp_sw false rfl rfl rfl rfl rfl rfl (by decide) (by decide) hg.f14 (by rcases hsh with ⟨e,_⟩ | ⟨e,_⟩ | ⟨e,_⟩ | ⟨e,_⟩ | ⟨e,_⟩ | ⟨e,_⟩<;>rw[e]<;>decide +kernel) fun g' e=> ?_
 replace hg:=hg.eq e
 clear e
 rw[if_neg Bool.false_ne_true]
 rcases hsh with ⟨e0,hl,hlv,hf0⟩ | hsh
 ·refine wp_sw true rfl rfl rfl rfl rfl rfl (by decide) (by decide) hg.f14 (by rw[e0];decide +kernel) fun g' e=> ?_
  replace hg:=hg.eq e
  clear e
  rw[if_pos rfl]
  have HR:sentP s (n+1) t=(sentP s n (kidOf t 0)).map (timeP (-1) (rd t.f1 0)):=by rw[sentP];(repeat rw[if_neg (by rw[e0];decide +kernel)]);rw[if_pos e0]
  obtain ⟨aa,rfl,_⟩:=E.tree.v.2.2 (by omega)
  have yv0:=Kd.foot_int E.tree.v 0 (Int.le_refl _) (by omega)
  refine seq_fin (T:=T) (s:=s) (w:=w) (mb:=mb) (L:=en.length+(N+N)) (R:=R) (r:=sentP s (n+1) t) (fun a' V' h1 h2 h3=>h3.end_ (show Tryz.f100.results= #[.cell 4 70]from rfl) h1 h2) (fun a' V' hd e hk=>⟨hd,by rw[e];exact SentRet.no hk⟩) ?_
  refine wp_region_list (list_op (i:=0) rfl (op_mv rfl rfl rfl hg.f6 (fop rfl (by decide) (list_op (i:=1) rfl (op_fa1 rfl rfl rfl hg.f3 (fop rfl (by decide) (list_op (i:=2) rfl (op_ld27 rfl rfl rfl rfl (blk_cell E.tree.blk 1) (fop rfl (by decide) (list_op (i:=3) rfl (op_ix27 rfl rfl rfl (eq_true (by decide)) (eq_true (by omega)) rfl (fop rfl (by decide) (list_op (i:=4) rfl (op_ld3c rfl rfl rfl rfl yv0 (fop rfl (by decide) (list_op (i:=5) rfl (op_fvS (vs:= #[.int .i64 (-1),.int .i64 (rd t.f1 0)]) rfl rfl rfl rfl (by simp only[List.map_toArray,List.map_cons,List.map_nil];rfl) (enters_of Tryz.func147 (by kernel_rfl) rfl) (during_calls T s n N h56 (-1) (rd t.f1 0) t hn (by omega) hres hsm hl hf0 w0 W2 bp mb _ _ _ en _ c1 A2 c2 E.env E.mapQ E.box E.tree (by omega)) rfl (fun e w' hk=>⟨HR.trans e,E.kp hk⟩) (fun k hk=> .inr hk) E.mapQ.nR fun u V1 hu hk1 hI1=>fop rfl (by decide) (list_op (i:=6) rfl (op_st70G rfl rfl rfl rfl hg.f4 rfl (Nine.zero (E.cK hk1 E.res)) hu (fun k hk=>by have:=E.sz;rcases hk with hk | hk;have:=hk.2;omega;omega) fun m V2 e hm2 hk2 hs2=> ?_)))))))))))))))))))
  exact ⟨hg.f4,rfl,E.st hk1 (hI1.imp fun _ h=>⟨h.1,by have h9:=h.2;omega⟩) (HR.trans e) hm2 hk2⟩
 refine wp_sw false rfl rfl rfl rfl rfl rfl (by decide) (by decide) hg.f14 (by rcases hsh with ⟨e,_⟩ | ⟨e,_⟩ | ⟨e,_⟩ | ⟨e,_⟩ | ⟨e,_⟩<;>rw[e]<;>decide +kernel) fun g' e=> ?_
 replace hg:=hg.eq e
 clear e
 rw[if_neg Bool.false_ne_true]
 rcases hsh with ⟨e0,hl,hlv,hf0,hf1⟩ | hsh
 ·refine wp_sw true rfl rfl rfl rfl rfl rfl (by decide) (by decide) hg.f14 (by rw[e0];decide +kernel) fun g' e=> ?_
  replace hg:=hg.eq e
  clear e
  rw[if_pos rfl]
  have HR:sentP s (n+1) t=(sentP s n (kidOf t 0)).bind fun x=>(sentP s n (kidOf t 1)).map (linkP 5 x):=by rw[sentP];(repeat rw[if_neg (by rw[e0];decide +kernel)]);rw[if_pos e0]
  refine seq_fin (T:=T) (s:=s) (w:=w) (mb:=mb) (L:=en.length+(N+N)) (R:=R) (r:=sentP s (n+1) t) (fun a' V' h1 h2 h3=>h3.end_ (show Tryz.f100.results= #[.cell 4 70]from rfl) h1 h2) (fun a' V' hd e hk=>⟨hd,by rw[e];exact SentRet.no hk⟩) ?_
  refine wp_region_list (list_op (i:=0) rfl (op_mv rfl rfl rfl hg.f7 (fop rfl (by decide) (list_op (i:=1) rfl (op_fvS (vs:= #[.int .i64 5]) rfl rfl rfl rfl (by simp only[List.map_toArray,List.map_cons,List.map_nil];rfl) (enters_of Tryz.func148 (by kernel_rfl) rfl) (connect_calls T s n N h56 5 t hn (by omega) hres hsm hl hf1 hf0 w0 W2 bp mb _ _ _ en A1 c1 A2 c2 E.env E.mapQ E.box E.tree (by omega)) rfl (fun e w' hk=>⟨HR.trans e,E.kp hk⟩) (fun k hk=> .inr hk) E.mapQ.nR fun u V1 hu hk1 hI1=>fop rfl (by decide) (list_op (i:=2) rfl (op_st70G rfl rfl rfl rfl hg.f4 rfl (Nine.zero (E.cK hk1 E.res)) hu (fun k hk=>by have:=E.sz;rcases hk with hk | hk;have:=hk.2;omega;omega) fun m V2 e hm2 hk2 hs2=> ?_)))))))
  exact ⟨hg.f4,rfl,E.st hk1 (hI1.imp fun _ h=>⟨h.1,by have h9:=h.2;omega⟩) (HR.trans e) hm2 hk2⟩
 refine wp_sw false rfl rfl rfl rfl rfl rfl (by decide) (by decide) hg.f14 (by rcases hsh with ⟨e,_⟩ | ⟨e,_⟩ | ⟨e,_⟩ | ⟨e,_⟩<;>rw[e]<;>decide +kernel) fun g' e=> ?_
 replace hg:=hg.eq e
 clear e
 rw[if_neg Bool.false_ne_true]
 rcases hsh with ⟨e0,hl,hlv,hf0,hf1⟩ | hsh
 ·refine wp_sw true rfl rfl rfl rfl rfl rfl (by decide) (by decide) hg.f14 (by rw[e0];decide +kernel) fun g' e=> ?_
  replace hg:=hg.eq e
  clear e
  rw[if_pos rfl]
  have HR:sentP s (n+1) t=(sentP s n (kidOf t 0)).bind fun x=>(sentP s n (kidOf t 1)).map (linkP 6 x):=by rw[sentP];(repeat rw[if_neg (by rw[e0];decide +kernel)]);rw[if_pos e0]
  refine seq_fin (T:=T) (s:=s) (w:=w) (mb:=mb) (L:=en.length+(N+N)) (R:=R) (r:=sentP s (n+1) t) (fun a' V' h1 h2 h3=>h3.end_ (show Tryz.f100.results= #[.cell 4 70]from rfl) h1 h2) (fun a' V' hd e hk=>⟨hd,by rw[e];exact SentRet.no hk⟩) ?_
  refine wp_region_list (list_op (i:=0) rfl (op_mv rfl rfl rfl hg.f7 (fop rfl (by decide) (list_op (i:=1) rfl (op_fvS (vs:= #[.int .i64 6]) rfl rfl rfl rfl (by simp only[List.map_toArray,List.map_cons,List.map_nil];rfl) (enters_of Tryz.func148 (by kernel_rfl) rfl) (connect_calls T s n N h56 6 t hn (by omega) hres hsm hl hf1 hf0 w0 W2 bp mb _ _ _ en A1 c1 A2 c2 E.env E.mapQ E.box E.tree (by omega)) rfl (fun e w' hk=>⟨HR.trans e,E.kp hk⟩) (fun k hk=> .inr hk) E.mapQ.nR fun u V1 hu hk1 hI1=>fop rfl (by decide) (list_op (i:=2) rfl (op_st70G rfl rfl rfl rfl hg.f4 rfl (Nine.zero (E.cK hk1 E.res)) hu (fun k hk=>by have:=E.sz;rcases hk with hk | hk;have:=hk.2;omega;omega) fun m V2 e hm2 hk2 hs2=> ?_)))))))
  exact ⟨hg.f4,rfl,E.st hk1 (hI1.imp fun _ h=>⟨h.1,by have h9:=h.2;omega⟩) (HR.trans e) hm2 hk2⟩
 refine wp_sw false rfl rfl rfl rfl rfl rfl (by decide) (by decide) hg.f14 (by rcases hsh with ⟨e,_⟩ | ⟨e,_⟩ | ⟨e,_⟩<;>rw[e]<;>decide +kernel) fun g' e=> ?_
 replace hg:=hg.eq e
 clear e
 rw[if_neg Bool.false_ne_true]
 rcases hsh with ⟨e0,hl,hlv,hf0,hf1⟩ | hsh
 ·refine wp_sw true rfl rfl rfl rfl rfl rfl (by decide) (by decide) hg.f14 (by rw[e0];decide +kernel) fun g' e=> ?_
  replace hg:=hg.eq e
  clear e
  rw[if_pos rfl]
  have HR:sentP s (n+1) t=(sentP s n (kidOf t 0)).bind fun x=>(sentP s n (kidOf t 1)).map (linkP 7 x):=by rw[sentP];(repeat rw[if_neg (by rw[e0];decide +kernel)]);rw[if_pos e0]
  refine seq_fin (T:=T) (s:=s) (w:=w) (mb:=mb) (L:=en.length+(N+N)) (R:=R) (r:=sentP s (n+1) t) (fun a' V' h1 h2 h3=>h3.end_ (show Tryz.f100.results= #[.cell 4 70]from rfl) h1 h2) (fun a' V' hd e hk=>⟨hd,by rw[e];exact SentRet.no hk⟩) ?_
  refine wp_region_list (list_op (i:=0) rfl (op_mv rfl rfl rfl hg.f7 (fop rfl (by decide) (list_op (i:=1) rfl (op_fvS (vs:= #[.int .i64 7]) rfl rfl rfl rfl (by simp only[List.map_toArray,List.map_cons,List.map_nil];rfl) (enters_of Tryz.func148 (by kernel_rfl) rfl) (connect_calls T s n N h56 7 t hn (by omega) hres hsm hl hf1 hf0 w0 W2 bp mb _ _ _ en A1 c1 A2 c2 E.env E.mapQ E.box E.tree (by omega)) rfl (fun e w' hk=>⟨HR.trans e,E.kp hk⟩) (fun k hk=> .inr hk) E.mapQ.nR fun u V1 hu hk1 hI1=>fop rfl (by decide) (list_op (i:=2) rfl (op_st70G rfl rfl rfl rfl hg.f4 rfl (Nine.zero (E.cK hk1 E.res)) hu (fun k hk=>by have:=E.sz;rcases hk with hk | hk;have:=hk.2;omega;omega) fun m V2 e hm2 hk2 hs2=> ?_)))))))
  exact ⟨hg.f4,rfl,E.st hk1 (hI1.imp fun _ h=>⟨h.1,by have h9:=h.2;omega⟩) (HR.trans e) hm2 hk2⟩
 refine wp_sw false rfl rfl rfl rfl rfl rfl (by decide) (by decide) hg.f14 (by rcases hsh with ⟨e,_⟩ | ⟨e,_⟩<;>rw[e]<;>decide +kernel) fun g' e=> ?_
 replace hg:=hg.eq e
 clear e
 rw[if_neg Bool.false_ne_true]
 rcases hsh with hsh | ⟨e0,hl,hlv,hf0⟩
 rotate_left
 ·refine wp_sw true rfl rfl rfl rfl rfl rfl (by decide) (by decide) hg.f14 (by rw[e0];decide +kernel) fun g' e=> ?_
  replace hg:=hg.eq e
  clear e
  rw[if_pos rfl]
  have HR:sentP s (n+1) t=sentP s n (kidOf t 0):=by rw[sentP];(repeat rw[if_neg (by rw[e0];decide +kernel)]);rw[if_pos e0]
  obtain ⟨ad0,B01,d01,B02,d02,e0_,y00,y01,y02,l01,i01,l02,i02⟩:=at_T30 E.tree.k 0 (by omega) (by omega)
  subst e0_
  refine seq_fin (T:=T) (s:=s) (w:=w) (mb:=mb) (L:=en.length+(N+N)) (R:=R) (r:=sentP s (n+1) t) (fun a' V' h1 h2 h3=>h3.end_ (show Tryz.f100.results= #[.cell 4 70]from rfl) h1 h2) (fun a' V' hd e hk=>⟨hd,by rw[e];exact SentRet.no hk⟩) ?_
  have kd:∀{V},Kp W2.drew V (fun k=>k=mb)→Kp W2 V (fun k=>k=mb):=fun hK=>(Kp.of_below (below_drew (Below.refl _ _)) _).then_ hK (fun k h=> .inl h)
  have ge:∀{V},Kp W2.drew V (fun k=>k=mb)→∀k,V.heap.size≤k→(fun k=>(R k∧k<w.heap.size)∨W2.heap.size≤k) k:=fun hK k hk=> .inr (Nat.le_trans (kd hK).size hk)
  have hm2:∀{m l},m<1→l≤en.length+m*N→l+N<2 ^ 62:=fun {m l} hm hl=>by
   have h:=Nat.mul_le_mul_right N (show m≤0 by omega)
   omega
  have nS:∀k,k=mb→¬(fun k=>(R k∧k<w.heap.size)∨W2.heap.size≤k) k:=fun k e h=>E.mapQ.nR (e▸h)
  refine region_kg (S:=fun k=>k=mb) 6 104 (fun m V=>∃en',MapInv T s V mb (fun k=>(R k∧k<w.heap.size)∨W2.heap.size≤k) en' ∧en'.length≤en.length+m*N) [.is (.pointer (some ⟨bp,0,none⟩)),.is (.pointer (some ⟨w.heap.size+1,2,none⟩)),.is (.slice (some ad0) t.f2.length c2),.is (.pointer (some (ad0.add ((0:Int).toNat*3)))),.is (.agg #[.string (kidOf t 0).f0,.slice B01 (kidOf t 0).f1.length d01,.slice B02 (kidOf t 0).f2.length d02]),.mn (fun k=>(R k∧k<w.heap.size)∨W2.heap.size≤k) nS (sentP s n (kidOf t 0))] [5] [73,74,75,76,77,78,999] _ W2 rfl (by kernel_rfl) (by kernel_rfl) (by kernel_rfl) (by decide) (by decide) (fun m w w' h hB=>by obtain ⟨en',h1,h2⟩:=h;exact ⟨en',h1.below hB,h2⟩) ⟨en,E.mapQ.below (below_drew (Below.refl _ _)),by omega⟩ ⟨
     fun q V J hK hq h hi=>op_ld73 hi rfl rfl hg.f2 (E.cK (kd hK) E.box) (h _ _ rfl (.refl _ _)),
   fun q V J hK hq h hi=>op_fa (c:=2) hi rfl rfl hg.f3 (h _ _ rfl (.refl _ _)),
   fun q V J hK hq h hi=>op_ld28 hi rfl rfl (hq 1 rfl) (blk_cell (E.cK (kd hK) E.tree.blk) 2) (h _ _ rfl (.refl _ _)),
   fun q V J hK hq h hi=>op_ix hi rfl rfl (eq_true (by decide)) (eq_true (by omega)) (hq 2 rfl) (h _ _ rfl (.refl _ _)),
   fun q V J hK hq h hi=>op_ldT hi rfl rfl (hq 3 rfl) (E.cC (kd hK) _ _ y00) (E.cC (kd hK) _ _ y01) (E.cC (kd hK) _ _ y02) (h _ _ rfl (.refl _ _)),
   fun q V J m hm hK hG hq h hi=>by
    obtain ⟨en',h1,h2⟩:=hG
    exact op_s56 (L:=en'.length) hi rfl rfl (hq 0 rfl) (hq 4 rfl) h56 (nodes_kid hn (by omega)) (by omega) hf0 (res_kid hres (by omega)) (hsm.kid (by omega)) (E.env.kp E.map.map (kd hK)) ⟨en',h1,Nat.le_refl _⟩ (TreeV.cells (w:=W2) ⟨l01,i01,l02,i02⟩ (E.cC (kd hK))) (hm2 hm h2) rfl (fun e w' hk=>⟨HR.trans e,E.kp ((kd hK).then_ hk (fun k h=> .inl h))⟩) (ge hK) (fun v w' a1 a2 a3=>h v w' a1 a2 (a3.imp fun _ h=>⟨h.1,by have h9:=h.2;rw[Nat.succ_mul];omega⟩)),trivial⟩ ?_
  intro o q V hi hK hG hx2
  injection hi with hi2
  subst hi2
  refine op_st70G rfl rfl rfl rfl hg.f4 rfl (Nine.zero (E.cK (kd hK) E.res)) (hx2 5 (by decide)) (fun k hk=>by have:=E.sz;rcases hk with hk | hk;have:=hk.2;omega;omega) fun m w' e hm hs hz=>⟨hg.f4,rfl,E.st (kd hK) (by obtain ⟨en',h1,h2⟩:=hG;exact ⟨en',h1,Nat.le_trans h2 (by show en.length+1*N≤_;omega)⟩) (HR.trans e) hm hs⟩
 refine wp_sw false rfl rfl rfl rfl rfl rfl (by decide) (by decide) hg.f14 (by rw[hsh.1];decide +kernel) fun g' e=> ?_
 replace hg:=hg.eq e
 clear e
 rw[if_neg Bool.false_ne_true]
 obtain ⟨e0,hl,hlv,hf0,hf1⟩:=hsh
 have HR:sentP s (n+1) t=(withP (kidOf t 0) (kidOf t 1)).bind fun o=>(sentP s n (kidOf t 0)).bind fun x=>(sentP s n o).map (bothP x):=by rw[sentP];(repeat rw[if_neg (by rw[e0];decide +kernel)])
 obtain ⟨ad0,B01,d01,B02,d02,e0_,y00,y01,y02,l01,i01,l02,i02⟩:=at_T30 E.tree.k 0 (by omega) (by omega)
 subst e0_
 obtain ⟨ad1,B11,d11,B12,d12,e1,y10,y11,y12,l11,i11,l12,i12⟩:=at_T30 E.tree.k 1 (by omega) (by omega)
 obtain rfl:=Option.some.inj e1
 refine wp_skip ?_
 refine wp_seq (wp_onNP (fun a' V=>∃g go A a B b,a' =frN 104 g∧K100 w t g∧g 8= .pointer (some ⟨go,0,none⟩)∧g 9= .bool (withP (kidOf t 0) (kidOf t 1)).isSome∧V.heap[go]? =some (.cells #[.string ((withP (kidOf t 0) (kidOf t 1)).getD z30).f0,.slice A ((withP (kidOf t 0) (kidOf t 1)).getD z30).f1.length a,.slice B ((withP (kidOf t 0) (kidOf t 1)).getD z30).f2.length b] 30 (0,0))∧TreeV V ((withP (kidOf t 0) (kidOf t 1)).getD z30) A a B b∧Below W2.heap.size W2 V) (fun _=>False) ?_ ?_ (fun _ _ _ h=>h.elim))
 ·have bw:∀{V},Below W2.drew.heap.size W2.drew V→Below W2.heap.size W2 V:=fun hB=>below_step (below_drew (Below.refl _ _)) hB
  refine region_box 30 #[.string ⟨#[]⟩,.slice none 0 0,.slice none 0 0] (fun v=>match v with | .agg a=>a | _=> #[]) 104 [.is (.pointer (some ⟨w.heap.size+1,2,none⟩)),.is (.slice (some ad0) t.f2.length c2),.is (.pointer (some (ad0.add ((0:Int).toNat*3)))),.is (.agg #[.string (kidOf t 0).f0,.slice B01 (kidOf t 0).f1.length d01,.slice B02 (kidOf t 0).f2.length d02]),.is (.pointer (some ⟨w.heap.size+1,2,none⟩)),.is (.slice (some ad0) t.f2.length c2),.is (.pointer (some (ad0.add ((1:Int).toNat*3)))),.is (.agg #[.string (kidOf t 1).f0,.slice B11 (kidOf t 1).f1.length d11,.slice B12 (kidOf t 1).f2.length d12]),.tup ((withP (kidOf t 0) (kidOf t 1)).getD z30) (withP (kidOf t 0) (kidOf t 1)).isSome,.tup ((withP (kidOf t 0) (kidOf t 1)).getD z30) (withP (kidOf t 0) (kidOf t 1)).isSome,.tre ((withP (kidOf t 0) (kidOf t 1)).getD z30),.is (.bool (withP (kidOf t 0) (kidOf t 1)).isSome),.top,.top,.is (.bool (withP (kidOf t 0) (kidOf t 1)).isSome)] [⟨12,13,10⟩] [80,81,82,83,84,85,86,87,88,79,89,90,8,999,9] _ W2 (by kernel_rfl) (by kernel_rfl) (by kernel_rfl) ?_ ⟨
   fun q V J pr hB hp hq h hi=>op_fa (c:=2) hi rfl rfl hg.f3 (h _ _ rfl (.refl _ _)),
    fun q V J pr hB hp hq h hi=>op_ld28 hi rfl rfl (hq 0 rfl) (blk_cell (blk_below E.tree.blk (bw hB)) 2) (h _ _ rfl (.refl _ _)),
    fun q V J pr hB hp hq h hi=>op_ix hi rfl rfl (eq_true (by decide)) (eq_true (by omega)) (hq 1 rfl) (h _ _ rfl (.refl _ _)),
    fun q V J pr hB hp hq h hi=>op_ldT hi rfl rfl (hq 2 rfl) (pw_cell_below (bw hB) y00) (pw_cell_below (bw hB) y01) (pw_cell_below (bw hB) y02) (h _ _ rfl (.refl _ _)),
    fun q V J pr hB hp hq h hi=>op_fa (c:=2) hi rfl rfl hg.f3 (h _ _ rfl (.refl _ _)),
    fun q V J pr hB hp hq h hi=>op_ld28 hi rfl rfl (hq 4 rfl) (blk_cell (blk_below E.tree.blk (bw hB)) 2) (h _ _ rfl (.refl _ _)),
    fun q V J pr hB hp hq h hi=>op_ix hi rfl rfl (eq_true (by decide)) (eq_true (by omega)) (hq 5 rfl) (h _ _ rfl (.refl _ _)),
    fun q V J pr hB hp hq h hi=>op_ldT hi rfl rfl (hq 6 rfl) (pw_cell_below (bw hB) y10) (pw_cell_below (bw hB) y11) (pw_cell_below (bw hB) y12) (h _ _ rfl (.refl _ _)),
    fun q V J pr hB hp hq h hi=>op_wth hi rfl rfl (hq 3 rfl) (hq 7 rfl) (hsm.kid (by omega)) (bw hB) ⟨l01,i01,l02,i02⟩ ⟨l11,i11,l12,i12⟩ (fun k hk=>hp k hk) h,
    fun q V J pr hB hp hq h hi=>op_mv hi rfl rfl rfl (h _ _ (hq 8 rfl) (.refl _ _)),
    fun q V J pr hB hp hq h hi=>by obtain ⟨u,e,hu⟩:=hq 9 rfl;exact op_ext hi rfl rfl e rfl (h _ _ hu (.refl _ _)),
    fun q V J pr hB hp hq h hi=>by obtain ⟨u,e,hu⟩:=hq 9 rfl;exact op_ext hi rfl rfl e rfl (h _ _ rfl (.refl _ _)),
    fun x V J h hi=>op_new30 hi rfl rfl h,
    fun x V J g pr hx hc hz h hi=>by obtain ⟨A,a,B,b,e,_⟩:=hc;exact op_st30 hi rfl rfl rfl hx e hz fun w' h1 h2 h3=>h undef w' (by rw[e];exact h1) h2 h3,
    fun q V J pr hB hp hq h hi=>op_asg hi rfl rfl (hq 11 rfl) (h _ _ rfl (.refl _ _)),trivial⟩ ?_
  ·intro j hj v w pr
   have hj2:j=12∨j=13:=by
    by_cases h6:j=12
    ·exact .inl h6
    ·by_cases h7:j=13
     ·exact .inr h7
     ·exact absurd (fun b hb=>by rcases List.mem_singleton.1 hb with rfl;exact ⟨fun e=>h6 e.symm,fun e=>h7 e.symm⟩) hj
   rcases hj2 with rfl | rfl<;>trivial
  ·intro q V hB hx hI
   obtain ⟨go,h1,h2,h3⟩:=hI.at_ ⟨12,13,10⟩ (by simp) rfl
   rw[if_pos rfl]at h3
   obtain ⟨A,a,B,b,e,ht⟩:=hx 10 (by decide) (by simp)
   rw[show (⟨12,13,10⟩:Bx).c=10 from rfl,e]at h3
   exact ⟨_,go,A,a,B,b,rfl,⟨hg.f2,hg.f3,hg.f4,hg.f5,hg.f6,hg.f7,hg.f14⟩,h1,hx 14 (by decide) (by simp),h3,⟨ht.l1,Kd.F_now ht.v,ht.l2,Kd.F_now ht.k⟩,bw hB⟩
 rintro a' V7 ⟨g7,go,A,a,B,b,rfl,hg7,g8,g9,xo,xto,hB7⟩
 refine wp_seq (wp_seq (wp_region_list (list_op (i:=0) rfl (op_mv rfl rfl rfl g9 (fop rfl (by decide) (list_op (i:=1) rfl (op_notb rfl rfl rfl rfl (fop rfl (by decide) (wp_cond rfl ?_)))))))))
 have hwf:=fun o (ho:withP (kidOf t 0) (kidOf t 1)=some o)=>with_nodes (kidOf t 1) (nodes (kidOf t 0)) (kidOf t 0) o (Nat.le_refl _) ho
 cases hw:withP (kidOf t 0) (kidOf t 1)with
 |none =>
  refine wp_region_list (list_op (i:=0) rfl (op_fail (k:=0) rfl rfl rfl (fop rfl (by decide) (list_op (i:=1) rfl (op_panic rfl rfl rfl rfl ?_)))))
  exact ⟨rfl,by rw[HR,hw];exact SentRet.no (Kp.of_below (below_step E.low hB7) _)⟩
 |some o =>
  refine wp_skip ?_
  have hno:nodes o≤n:=by
   have h1:=hwf o hw
   have h2:=nodesL_kids (l:=t.f2) (by omega)
   have h3:=nodes_eq t
   unfold kidOf at h1
   omega
  have hfo:=with_formed hf1 _ _ o (Nat.le_refl _) hf0 hw
  have hro:=with_res (res_kid hres (by omega)) _ _ o (Nat.le_refl _) (res_kid hres (by omega)) hw
  have hso:=with_Sm (hsm.kid (by omega)) _ _ o (Nat.le_refl _) (hsm.kid (by omega)) hw
  have HR2:sentP s (n+1) t=(sentP s n (kidOf t 0)).bind fun x=>(sentP s n o).map (bothP x):=by rw[HR,hw];rfl
  rw[hw]at xo xto
  replace xo:V7.heap[go]? =some (.cells #[.string o.f0,.slice A o.f1.length a,.slice B o.f2.length b] 30 (0,0)):=xo
  replace xto:TreeV V7 o A a B b:=xto
  replace E:=E.below hB7
  obtain ⟨ad9,B01,d01,B02,d02,e0_,y00,y01,y02,l01,i01,l02,i02⟩:=at_T30 E.tree.k 0 (by omega) (by omega)
  obtain rfl:=Option.some.inj e0_
  refine seq_fin (T:=T) (s:=s) (w:=w) (mb:=mb) (L:=en.length+(N+N)) (R:=R) (r:=sentP s (n+1) t) (fun a' V' h1 h2 h3=>h3.end_ (show Tryz.f100.results= #[.cell 4 70]from rfl) h1 h2) (fun a' V' hd e hk=>⟨hd,by rw[e];exact SentRet.no hk⟩) ?_
  have kd:∀{V},Kp V7.drew V (fun k=>k=mb)→Kp V7 V (fun k=>k=mb):=fun hK=>(Kp.of_below (below_drew (Below.refl _ _)) _).then_ hK (fun k h=> .inl h)
  have ge:∀{V},Kp V7.drew V (fun k=>k=mb)→∀k,V.heap.size≤k→(fun k=>(R k∧k<w.heap.size)∨V7.heap.size≤k) k:=fun hK k hk=> .inr (Nat.le_trans (kd hK).size hk)
  have hm2:∀{m l},m<2→l≤en.length+m*N→l+N<2 ^ 62:=fun {m l} hm hl=>by
   have h:=Nat.mul_le_mul_right N (show m≤1 by omega)
   omega
  have nS:∀k,k=mb→¬(fun k=>(R k∧k<w.heap.size)∨V7.heap.size≤k) k:=fun k e h=>E.mapQ.nR (e▸h)
  refine region_kg (S:=fun k=>k=mb) 10 104 (fun m V=>∃en',MapInv T s V mb (fun k=>(R k∧k<w.heap.size)∨V7.heap.size≤k) en' ∧en'.length≤en.length+m*N) [.is (.pointer (some ⟨bp,0,none⟩)),.is (.pointer (some ⟨w.heap.size+1,2,none⟩)),.is (.slice (some ad0) t.f2.length c2),.is (.pointer (some (ad0.add ((0:Int).toNat*3)))),.is (.agg #[.string (kidOf t 0).f0,.slice B01 (kidOf t 0).f1.length d01,.slice B02 (kidOf t 0).f2.length d02]),.mn (fun k=>(R k∧k<w.heap.size)∨V7.heap.size≤k) nS (sentP s n (kidOf t 0)),.is (.pointer (some ⟨bp,0,none⟩)),.is (.agg #[.string o.f0,.slice A o.f1.length a,.slice B o.f2.length b]),.mn (fun k=>(R k∧k<w.heap.size)∨V7.heap.size≤k) nS (sentP s n o),.mn (fun k=>(R k∧k<w.heap.size)∨V7.heap.size≤k) nS ((sentP s n (kidOf t 0)).bind fun m1=>(sentP s n o).bind fun m2=>some (bothP m1 m2))] [5,8] [94,95,96,97,98,99,100,101,102,103,999] _ V7 rfl (by kernel_rfl) (by kernel_rfl) (by kernel_rfl) (by decide) (by decide) (fun m w w' h hB=>by obtain ⟨en',h1,h2⟩:=h;exact ⟨en',h1.below hB,h2⟩) ⟨en,E.mapQ.below (below_drew (Below.refl _ _)),by omega⟩ ⟨
     fun q V J hK hq h hi=>op_ld73 hi rfl rfl hg7.f2 (E.cK (kd hK) E.box) (h _ _ rfl (.refl _ _)),
   fun q V J hK hq h hi=>op_fa (c:=2) hi rfl rfl hg7.f3 (h _ _ rfl (.refl _ _)),
   fun q V J hK hq h hi=>op_ld28 hi rfl rfl (hq 1 rfl) (blk_cell (E.cK (kd hK) E.tree.blk) 2) (h _ _ rfl (.refl _ _)),
   fun q V J hK hq h hi=>op_ix hi rfl rfl (eq_true (by decide)) (eq_true (by omega)) (hq 2 rfl) (h _ _ rfl (.refl _ _)),
   fun q V J hK hq h hi=>op_ldT hi rfl rfl (hq 3 rfl) (E.cC (kd hK) _ _ y00) (E.cC (kd hK) _ _ y01) (E.cC (kd hK) _ _ y02) (h _ _ rfl (.refl _ _)),
   fun q V J m hm hK hG hq h hi=>by
    obtain ⟨en',h1,h2⟩:=hG
    exact op_s56 (L:=en'.length) hi rfl rfl (hq 0 rfl) (hq 4 rfl) h56 (nodes_kid hn (by omega)) (by omega) hf0 (res_kid hres (by omega)) (hsm.kid (by omega)) (E.env.kp E.map.map (kd hK)) ⟨en',h1,Nat.le_refl _⟩ (TreeV.cells (w:=V7) ⟨l01,i01,l02,i02⟩ (E.cC (kd hK))) (hm2 hm h2) rfl (fun e w' hk=>⟨by rw[HR2,e];rfl,E.kp ((kd hK).then_ hk (fun k h=> .inl h))⟩) (ge hK) (fun v w' a1 a2 a3=>h v w' a1 a2 (a3.imp fun _ h=>⟨h.1,by have h9:=h.2;rw[Nat.succ_mul];omega⟩)),
   fun q V J hK hq h hi=>op_ld73 hi rfl rfl hg7.f2 (E.cK (kd hK) E.box) (h _ _ rfl (.refl _ _)),
   fun q V J hK hq h hi=>op_ldT (ad:=⟨go,0,none⟩) hi rfl rfl g8 (blk_cell (E.cK (kd hK) xo) 0) (blk_cell (E.cK (kd hK) xo) 1) (blk_cell (E.cK (kd hK) xo) 2) (h _ _ rfl (.refl _ _)),
   fun q V J m hm hK hG hq h hi=>by
    obtain ⟨en',h1,h2⟩:=hG
    exact op_s56 (L:=en'.length) hi rfl rfl (hq 6 rfl) (hq 7 rfl) h56 hno (by omega) hfo hro hso (E.env.kp E.map.map (kd hK)) ⟨en',h1,Nat.le_refl _⟩ (xto.cells (E.cC (kd hK))) (hm2 hm h2) rfl (fun e w' hk=>⟨by rw[HR2,e];cases sentP s n (kidOf t 0)<;>rfl,E.kp ((kd hK).then_ hk (fun k h=> .inl h))⟩) (ge hK) (fun v w' a1 a2 a3=>h v w' a1 a2 (a3.imp fun _ h=>⟨h.1,by have h9:=h.2;rw[Nat.succ_mul];omega⟩)),
   fun q V J hK hq h hi=>op_bothG hi rfl rfl rfl rfl (hq 5 rfl) (hq 8 rfl) (ge hK) h,trivial⟩ ?_
  intro o q V hi hK hG hx2
  injection hi with hi2
  subst hi2
  refine op_st70G rfl rfl rfl rfl hg7.f4 rfl (Nine.zero (E.cK (kd hK) E.res)) (hx2 9 (by decide)) (fun k hk=>by have:=E.sz;rcases hk with hk | hk;have:=hk.2;omega;omega) fun m w' e hm hs hz=>⟨hg7.f4,rfl,E.st (kd hK) (by obtain ⟨en',h1,h2⟩:=hG;exact ⟨en',h1,Nat.le_trans h2 (by show en.length+2*N≤_;omega)⟩) (HR2.trans (by revert e;cases sentP s n (kidOf t 0)<;>cases sentP s n o<;>exact id)) hm hs⟩
def NN:Nat→Nat
 |0=>0
 |n+1=>NN n+NN n+1
theorem NN_eq:∀n,NN n+1=2 ^ n
 |0=>rfl
 |n+1=>by have:=NN_eq n;rw[NN,Nat.pow_succ];omega
theorem sent_all (T:Lib.PrintTabs) (s:Sg):∀n,SentC T s 56 n (NN n)
 |0=>fun t hn=>absurd hn (by have:=nodes_eq t;omega)
 |n+1=>sent_step T s (n+1) (NN n+NN n) (build_step T s n (NN n) (sent_all T s n))
end
def bools:List Bool:=[true,false]
theorem mem_bools (b:Bool):b∈bools:=by cases b<;>simp[bools]
theorem kp_set9 {W:World} {g:Nat} (a0 a1 a2 a3 a4 a5 a6 a7 a8:Value):Kp W (set9 W g a0 a1 a2 a3 a4 a5 a6 a7 a8) (fun k=>k=g):=by
 unfold set9
 have hs:∀k,k=g→k=g∨W.heap.size≤k:=fun _ h=> .inl h
 exact ((((((((Kp.setCell W ⟨g,0,none⟩ a0).then_ (Kp.setCell _ ⟨g,1,none⟩ a1) hs).then_ (Kp.setCell _ ⟨g,2,none⟩ a2) hs).then_ (Kp.setCell _ ⟨g,3,none⟩ a3) hs).then_ (Kp.setCell _ ⟨g,4,none⟩ a4) hs).then_ (Kp.setCell _ ⟨g,5,none⟩ a5) hs).then_ (Kp.setCell _ ⟨g,6,none⟩ a6) hs).then_ (Kp.setCell _ ⟨g,7,none⟩ a7) hs).then_ (Kp.setCell _ ⟨g,8,none⟩ a8) hs
section
theorem info30c:(Tryz.prog.info? 30).map (fun i=>(i.zero,i.size,i.bytes))=some (some (.agg #[.string ⟨#[]⟩,.slice none 0 0,.slice none 0 0]),3,64):=by kernel_rfl
def CloneRet (w:World) (f:ByteArray) (e:Ending) (w' :World):Prop:=Below w.heap.size w w' ∧∃B1 n1 d1 B2 n2 d2,e= .returned (.agg #[.string f,.slice B1 n1 d1,.slice B2 n2 d2])
theorem CloneRet.mk_ {w w' :World} {f:ByteArray} {B1 B2:Option Addr} {n1 d1 n2 d2:Nat} (h:Below w.heap.size w w'):CloneRet w f (.returned (.agg #[.string f,.slice B1 n1 d1,.slice B2 n2 d2])) w' :=⟨h,_,_,_,_,_,_,rfl⟩
structure CloneSt (w wr:World) (g:Nat) (f:ByteArray) (v1 v:Value) (rows:List (List Value)):Prop where
 out:wr.heap[g]? =some (.cells #[.string f,v1,v] 30 (0,0))
 res:wr.heap[w.heap.size+1]? =some (.cells #[.string ⟨#[]⟩,.slice none 0 0,.slice none 0 0] 30 (0,0))
 row:Row (Kd.raw 3) 30 wr (fun _=>False) v rows
 far:∀k,v.ownBlock=some k→w.heap.size+2≤k∧k≠g
 gg:w.heap.size+2≤g
 below:Below w.heap.size w wr
section
variable {w wr W w9:World} {g:Nat} {f:ByteArray} {v1 v u:Value} {rows:List (List Value)}
theorem CloneSt.below_ (h:CloneSt w wr g f v1 v rows) (hB:Below wr.heap.size wr W):CloneSt w W g f v1 v rows :=
 ⟨blk_below h.out hB,blk_below h.res hB,h.row.step (fun k hk=>hB.block k (h.row.lt k hk)) (fun _ hk _=>hk.elim),h.far,h.gg,below_step h.below hB⟩
theorem CloneSt.next (h:CloneSt w W g f v1 v rows) (r:List Value) (hR:Row (Kd.raw 3) 30 w9 (fun _=>False) u (rows++[r])) (hG:W.grownBy w9 v.ownBlock) (hat:u.ownBlock=v.ownBlock∨∃b,u.ownBlock=some b∧W.heap.size≤b) :
  CloneSt w (w9.setCell ⟨g,2,none⟩ u) g f v1 u (rows++[r]):=by
 have hlt:=blk_lt h.out
 have hgg:=h.gg
 have hne:∀j,j=g∨j=w.heap.size+1→some j≠v.ownBlock:=fun j hj e=>by have:=h.far j e.symm;omega
 have hfar1:∀j,u.ownBlock=some j→w.heap.size+2≤j∧j≠g:=fun j e=>by
  rcases hat with ha | ⟨b,ha,hb⟩
  ·exact h.far j (ha.symm.trans e)
  ·rw[ha]at e
   injection e with e
   omega
 have hf:∀k,k≠g→(w9.setCell ⟨g,2,none⟩ u).heap[k]? =w9.heap[k]? :=fun k hk=>Below.heap_setCell _ ⟨g,2,none⟩ _ k hk
 refine ⟨?_,(hf _ (by omega)).trans (blk_grownBy hG h.res (hne _ (.inr rfl))),?_,hfar1,hgg,?_⟩
 ·have q2:=blk_set (blk_grownBy hG h.out (hne _ (.inl rfl))) 2 u
  simpa using q2
 ·exact hR.step (fun j e=>hf j (hfar1 j e).2) (fun j hj _=>hj.elim)
 ·exact below_set (h.below.grown hG h.below.size (fun j e=>by have:=h.far j e;omega)) (by omega)
end
set_option maxHeartbeats 4000000 in
set_option maxRecDepth 100000 in
theorem clone_step (t:S30) (w:World) (A1:Option Addr) (c1:Nat) (A2:Option Addr) (c2:Nat) (tv:TreeV w t A1 c1 A2 c2) (hl1:t.f1.length≤2000000) (hl2:t.f2.length≤2000000)
  (ih:∀(x:S30) (B1:Option Addr) (d1:Nat) (B2:Option Addr) (d2:Nat) (W:World),x∈t.f2→TreeV W x B1 d1 B2 d2→Calls Tryz.prog 98 #[.agg #[.string x.f0,.slice B1 x.f1.length d1,.slice B2 x.f2.length d2]] W (CloneRet W x.f0)) :
  Calls Tryz.prog 98 #[.agg #[.string t.f0,.slice A1 t.f1.length c1,.slice A2 t.f2.length c2]] w (CloneRet w t.f0):=by
 have HB0:=Aside0.mk (below_alloc (below_alloc (Below.refl w.heap.size w) (.cells #[.string t.f0,.slice A1 t.f1.length c1,.slice A2 t.f2.length c2] 30)) (.cells #[.string ⟨#[]⟩,.slice none 0 0,.slice none 0 0] 30))
 have HX0:=Aside0.mk (blk_alloc (heap_alloc_new w (.cells #[.string t.f0,.slice A1 t.f1.length c1,.slice A2 t.f2.length c2] 30)) (.cells #[.string ⟨#[]⟩,.slice none 0 0,.slice none 0 0] 30))
 have HR0:=Aside0.mk (new2 w (.cells #[.string t.f0,.slice A1 t.f1.length c1,.slice A2 t.f2.length c2] 30) (.cells #[.string ⟨#[]⟩,.slice none 0 0,.slice none 0 0] 30))
 have HSZ:=Aside0.mk (show ((w.alloc (.cells #[.string t.f0,.slice A1 t.f1.length c1,.slice A2 t.f2.length c2] 30)).alloc (.cells #[.string ⟨#[]⟩,.slice none 0 0,.slice none 0 0] 30)).heap.size=w.heap.size+2 by simp)
 have TV:=Aside0.mk tv
 have IH:=Aside0.mk ih
 have TV2:=Aside0.mk (tv.below HB0.out)
 clear tv ih
 have HLV:Aside0 (t.f1.length*8≤140737488355328):=⟨by omega⟩
 go_enter Tryz.func98,Tryz.ntmps98
 go_wp2_with fail
 generalize hW2:((w.alloc (.cells #[.string t.f0,.slice A1 t.f1.length c1,.slice A2 t.f2.length c2] 30)).alloc (.cells #[.string ⟨#[]⟩,.slice none 0 0,.slice none 0 0] 30))=W2 at *
 clear hW2
 have C:=Aside0.mk (fun (W:World) (hW:Below W2.heap.size W2 W)=>clone_ints A1 c1 t.f1 W (Kd.C_below TV2.out.v hW) HLV.out)
 have hlt:w.heap.size<W2.heap.size:=by have:=HSZ.out;omega
 have SX:=Aside0.mk (fun (W:World) (hX:W.heap[w.heap.size]? =some (.cells #[.string t.f0,.slice A1 t.f1.length c1,.slice A2 t.f2.length c2] 30 (0,0)))=>(show W.cell? ⟨w.heap.size,0,none⟩=some (.string t.f0)∧W.cell? ⟨w.heap.size,1,none⟩=some (.slice A1 t.f1.length c1)from ⟨blk_cell hX 0,blk_cell hX 1⟩))
 go_region_held3 (fun w' =>w'.cell? ⟨w.heap.size,0,none⟩=some (.string t.f0)∧w'.cell? ⟨w.heap.size,1,none⟩=some (.slice A1 t.f1.length c1))
  (first
   |(with_reducible exact SX.out _ (blk_drew HX0.out))
   |(with_reducible exact SX.out _ (blk_drew (blk_alloc HX0.out _)))
   |(with_reducible exact SX.out _ W1.out)
   |(with_reducible exact SX.out _ (blk_alloc W1.out _))
   |exact SX.out _ (blk_far (blk_far (blk_far W1.out (by simp;omega) _) (by simp;omega) _) (by simp;omega) _))
  (first
   |(go_at_call 97;refine (C.out W2.drew (below_drew (Below.refl _ W2))).mono ?_;rintro e w2 ⟨v,rfl,hR,hB⟩;obtain ⟨B1,d1,hv⟩:=Kd.R_slice hR;subst hv;have hB2:=below_step (below_drew (Below.refl _ W2)) hB;have W1:=Aside0.mk (blk_below HX0.out hB2);have HB2:=Aside0.mk hB2;have R1:=Aside0.mk (blk_below HR0.out hB2);have hs2:=hB2.size;clear hR;clear hB hB2)
   |(go_at_call 97;refine (C.out (World.drew (World.alloc W2 _)) (below_drew (below_alloc (Below.refl _ W2) _))).mono ?_;rintro e w2 ⟨v,rfl,hR,hB⟩;obtain ⟨B1,d1,hv⟩:=Kd.R_slice hR;subst hv;have hB2:=below_step (below_drew (below_alloc (Below.refl _ W2) _)) hB;have W1:=Aside0.mk (blk_below HX0.out hB2);have HB2:=Aside0.mk hB2;have R1:=Aside0.mk (blk_below HR0.out hB2);have hs2:=hB2.size;clear hR;have P1:=blk_below (w:=World.drew (World.alloc W2 _)) (heap_alloc_new W2 _) hB;have p0:=blk_cell P1 0;have p1:=blk_cell P1 1;have p2:=blk_cell P1 2;have q0:=blk_frozen P1 0;have q1:=blk_frozen P1 1;have q2:=blk_frozen P1 2;simp at p0 p1 p2;have P1:=Aside0.mk P1;clear hB hB2))
 ·have OO:=Aside0.mk (heap_alloc_new w2 (.cells #[.string t.f0,.slice B1 t.f1.length d1,.slice none 0 0] 30 (0,0)))
  have HRR:=Aside0.mk (blk_alloc R1.out (.cells #[.string t.f0,.slice B1 t.f1.length d1,.slice none 0 0] 30))
  have HXX:=Aside0.mk (blk_alloc W1.out (.cells #[.string t.f0,.slice B1 t.f1.length d1,.slice none 0 0] 30))
  have HB5:=Aside0.mk (below_alloc (below_step HB0.out HB2.out) (.cells #[.string t.f0,.slice B1 t.f1.length d1,.slice none 0 0] 30))
  have hgo:w.heap.size+2≤w2.heap.size:=by have:=HSZ.out;omega
  generalize hW5:w2.alloc (.cells #[.string t.f0,.slice B1 t.f1.length d1,.slice none 0 0] 30)=W5 at *
  generalize w2.heap.size=g at *
  clear hW5 R1 W1 HB2 hs2
  have HS0:=Aside0.mk (CloneSt.mk OO.out HRR.out (Row.nil (Kd.raw 3) 30 W5 (fun _=>False)) (fun k hk=>by simp[Value.ownBlock]at hk) hgo HB5.out)
  have x2:=blk_cell HXX.out 2
  simp at x2
  clear C SX HLV TV2 HRR OO HX0 HR0
  go_wp2
  clear x2 HXX
  go_loopw [15] (fun i w' =>∃y:Int,i= .int .i64 y∧0≤y∧y≤t.f2.length∧Aside0 (∃v rows,rows.length=y.toNat∧CloneSt w w' g t.f0 (.slice B1 t.f1.length d1) v rows)) (fun i _=>t.f2.length-(intOf i).toNat)
  case atStart=>exact ⟨0,rfl,Int.le_refl _,Int.natCast_nonneg _,⟨_,[],rfl,HS0.out⟩⟩
  case round =>
   clear HS0
   obtain ⟨y,rfl,hy,hyk,HS⟩:=hrel
   obtain ⟨v,rows,hrl,hS⟩:=HS.out
   have HN:=Aside0.mk hS
   have HRL:=Aside0.mk hrl
   clear HS hS hrl
   obtain ⟨Av,cv,hv⟩:=HN.out.row.slice
   generalize hnv:rows.length=nv at hv
   subst hv
   by_cases hyl:y<t.f2.length
   ·obtain ⟨ad,D1,m1,D2,m2,e,y0,y1,y2,hl1',hi1,hl2',hi2⟩:=at_T30 TV.out.k y hy hyl
    cases e
    have hB:=HN.out.below
    replace y0:=(hB.cell (World.block_lt_of_cell? w _ y0)).trans y0
    replace y1:=(hB.cell (World.block_lt_of_cell? w _ y1)).trans y1
    replace y2:=(hB.cell (World.block_lt_of_cell? w _ y2)).trans y2
    have p1:=eq_true hy
    have q1:=eq_true hyl
    have KV:=Aside0.mk (show TreeV wr (rd_T30 t.f2 y) D1 m1 D2 m2 from ⟨hl1',Kd.C_below hi1 hB,hl2',Kd.C_below hi2 hB⟩)
    have KM:=Aside0.mk (rd_mem t.f2 y hy hyl)
    clear hB hl1' hi1 hl2' hi2
    have IHX:=Aside0.mk (fun (V:World) (hV:TreeV V (rd_T30 t.f2 y) D1 m1 D2 m2)=>IH.out (rd_T30 t.f2 y) D1 m1 D2 m2 V KM.out hV)
    generalize rd_T30 t.f2 y=kid at *
    go_wp2
    have HN7:=Aside0.mk (HN.out.below_ (below_alloc (Below.refl _ wr) (.cells #[.string kid.f0,.slice D1 kid.f1.length m1,.slice D2 kid.f2.length m2] 30)))
    have HX7:=Aside0.mk (heap_alloc_new wr (.cells #[.string kid.f0,.slice D1 kid.f1.length m1,.slice D2 kid.f2.length m2] 30))
    have KV7:=Aside0.mk (KV.out.below (below_alloc (Below.refl _ wr) (.cells #[.string kid.f0,.slice D1 kid.f1.length m1,.slice D2 kid.f2.length m2] 30)))
    have hbg:g<wr.heap.size:=blk_lt HN.out.out
    have HVL:=Aside0.mk HN.out.row.lt
    generalize hW7:wr.alloc (.cells #[.string kid.f0,.slice D1 kid.f1.length m1,.slice D2 kid.f2.length m2] 30)=W7 at *
    clear hW7
    have hb7:wr.heap.size<W7.heap.size:=blk_lt HX7.out
    generalize wr.heap.size=b at *
    have CR:=Aside0.mk (fun (V:World) (hV:Below W7.heap.size W7 V)=>IHX.out V (KV7.out.below hV))
    have HL:Aside0 ((rows.length+1)*64≤140737488355328):=⟨by have:=HRL.out;omega⟩
    have o2:=blk_cell (blk_drew HN7.out.out) 2
    simp at o2
    have x0:=blk_cell (blk_drew HX7.out) 0
    have x1:=blk_cell (blk_drew HX7.out) 1
    have x2:=blk_cell (blk_drew HX7.out) 2
    simp at x0 x1 x2
    go_region_law
     (first
      |(go_simp;go_at_call 98;refine (CR.out _ (below_drew (Below.refl _ W7))).mono ?_;rintro e w8 ⟨hB,G1,n1,g1,G2,n2,g2,rfl⟩;have hB8:=below_step (below_drew (Below.refl _ W7)) hB;have HN8:=Aside0.mk (HN7.out.below_ hB8);have o3:=blk_cell HN8.out.out 2;have o4:=fun (o:Obj)=>blk_cell (blk_alloc HN8.out.out o) 2;simp at o3 o4;clear hB hB8)
      |(refine Row.append_step (Kd.raw 3) (W:=w8) rfl (.tmp 20) (.tmp 23) 28 30 (.agg #[.string ⟨#[]⟩,.slice none 0 0,.slice none 0 0]) 64 rfl Tryz.underlying28 info30c rfl (by decide) (by decide) (.slice Av nv cv) rows [.string kid.f0,.slice G1 n1 g1,.slice G2 n2 g2] [.string kid.f0,.slice G1 n1 g1,.slice G2 n2 g2] (fun _=>False) (by simp[Act.eval,Act.put]) (by simp[Act.eval,Act.put]) (fun _ _=>⟨rfl,rfl,by simp[Value.oneCell']⟩) (fun _ hk=>hk.elim) HN8.out.row HL.out ?_;intro v1 w9 hR1 hG hat;have HX:=Aside0.mk (And.intro hR1 (And.intro hG hat));have qo:=blk_grownBy hG HN8.out.out (fun e=>by have:=HN8.out.far _ e.symm;omega);have QO:=Aside0.mk qo;have f2:=blk_frozen qo 2;have r2:=blk_cell qo 2;simp at r2;obtain ⟨A9,c9,hv1⟩:=hR1.slice;generalize List.length _=n9 at hv1;subst hv1;clear hR1 hG hat qo))
    all_goals clear x0 x1 x2 o2 o3 o4 CR r2 f2 y0 y1 y2
    all_goals (
     have HNX:=Aside0.mk (HN8.out.next _ HX.out.1 HX.out.2.1 HX.out.2.2)
     have HRL2:Aside0 ((rows++[([.string kid.f0,.slice G1 n1 g1,.slice G2 n2 g2]:List Value)]).length=(y+1).toNat):=⟨by have:=HRL.out;rw[List.length_append];simp only[List.length_cons,List.length_nil];omega⟩
     clear hnv
     go_wp2
     go_roundw
     case rel=>exact ⟨y+1,rfl,by omega,by omega,⟨_,_,HRL2.out,HNX.out⟩⟩
     case measure=>simp[intOf];omega)
   ·have RR:=HN.out.out
    have RS:=Aside0.mk HN.out.res
    have r0:=blk_cell RR 0
    have r1:=blk_cell RR 1
    have r2:=blk_cell RR 2
    simp at r0 r1 r2
    have s0:=blk_cell RS.out 0
    have s1:=blk_cell RS.out 1
    have s2:=blk_cell RS.out 2
    have f0:=blk_frozen RS.out 0
    have f1:=blk_frozen RS.out 1
    have f2:=blk_frozen RS.out 2
    simp at s0 s1 s2
    clear RR hnv
    go_wp2
    refine bodyPost_ret (results_single rfl (.cell (w.heap.size+1) 30 _ (0,0) _ rfl (fin3 (W:=wr) RS.out (.string t.f0) (.slice B1 t.f1.length d1) (.slice Av nv cv)) Tryz.underlying30 rfl (by kernel_rfl) .nil)) rfl ?_
    exact CloneRet.mk_ (fin3_below HN.out.below (Nat.le_succ _) _ _ _)
 ·have OO:=Aside0.mk (fin3 P1.out (.string t.f0) (.slice B1 t.f1.length d1) (.slice none 0 0))
  have hne1:w.heap.size+1≠W2.heap.size:=by have:=HSZ.out;omega
  have hne0:w.heap.size≠W2.heap.size:=by have:=HSZ.out;omega
  have HRR:=Aside0.mk ((fin3_far (W:=w2) hne1 (.string t.f0) (.slice B1 t.f1.length d1) (.slice none 0 0)).trans R1.out)
  have HXX:=Aside0.mk ((fin3_far (W:=w2) hne0 (.string t.f0) (.slice B1 t.f1.length d1) (.slice none 0 0)).trans W1.out)
  have HB5:=Aside0.mk (show Below w.heap.size w (((w2.setCell ⟨W2.heap.size,0,none⟩ (.string t.f0)).setCell ⟨W2.heap.size,1,none⟩ (.slice B1 t.f1.length d1)).setCell ⟨W2.heap.size,2,none⟩ (.slice none 0 0))from below_set (below_set (below_set (below_step HB0.out HB2.out) (Nat.le_of_lt hlt)) (Nat.le_of_lt hlt)) (Nat.le_of_lt hlt))
  have hgo:w.heap.size+2≤W2.heap.size:=by have:=HSZ.out;omega
  clear p0 p1 p2 q0 q1 q2 P1
  generalize hW5:(((w2.setCell ⟨W2.heap.size,0,none⟩ (.string t.f0)).setCell ⟨W2.heap.size,1,none⟩ (.slice B1 t.f1.length d1)).setCell ⟨W2.heap.size,2,none⟩ (.slice none 0 0))=W5 at *
  generalize W2.heap.size=g at *
  clear hW5 R1 W1 HB2 hs2 hne1 hne0
  have HS0:=Aside0.mk (CloneSt.mk OO.out HRR.out (Row.nil (Kd.raw 3) 30 W5 (fun _=>False)) (fun k hk=>by simp[Value.ownBlock]at hk) hgo HB5.out)
  have x2:=blk_cell HXX.out 2
  simp at x2
  clear C SX HLV TV2 HRR OO HX0 HR0
  go_wp2
  clear x2 HXX
  go_loopw [15] (fun i w' =>∃y:Int,i= .int .i64 y∧0≤y∧y≤t.f2.length∧Aside0 (∃v rows,rows.length=y.toNat∧CloneSt w w' g t.f0 (.slice B1 t.f1.length d1) v rows)) (fun i _=>t.f2.length-(intOf i).toNat)
  case atStart=>exact ⟨0,rfl,Int.le_refl _,Int.natCast_nonneg _,⟨_,[],rfl,HS0.out⟩⟩
  case round =>
   clear HS0
   obtain ⟨y,rfl,hy,hyk,HS⟩:=hrel
   obtain ⟨v,rows,hrl,hS⟩:=HS.out
   have HN:=Aside0.mk hS
   have HRL:=Aside0.mk hrl
   clear HS hS hrl
   obtain ⟨Av,cv,hv⟩:=HN.out.row.slice
   generalize hnv:rows.length=nv at hv
   subst hv
   by_cases hyl:y<t.f2.length
   ·obtain ⟨ad,D1,m1,D2,m2,e,y0,y1,y2,hl1',hi1,hl2',hi2⟩:=at_T30 TV.out.k y hy hyl
    cases e
    have hB:=HN.out.below
    replace y0:=(hB.cell (World.block_lt_of_cell? w _ y0)).trans y0
    replace y1:=(hB.cell (World.block_lt_of_cell? w _ y1)).trans y1
    replace y2:=(hB.cell (World.block_lt_of_cell? w _ y2)).trans y2
    have p1:=eq_true hy
    have q1:=eq_true hyl
    have KV:=Aside0.mk (show TreeV wr (rd_T30 t.f2 y) D1 m1 D2 m2 from ⟨hl1',Kd.C_below hi1 hB,hl2',Kd.C_below hi2 hB⟩)
    have KM:=Aside0.mk (rd_mem t.f2 y hy hyl)
    clear hB hl1' hi1 hl2' hi2
    have IHX:=Aside0.mk (fun (V:World) (hV:TreeV V (rd_T30 t.f2 y) D1 m1 D2 m2)=>IH.out (rd_T30 t.f2 y) D1 m1 D2 m2 V KM.out hV)
    generalize rd_T30 t.f2 y=kid at *
    go_wp2
    have HN7:=Aside0.mk (HN.out.below_ (below_alloc (Below.refl _ wr) (.cells #[.string kid.f0,.slice D1 kid.f1.length m1,.slice D2 kid.f2.length m2] 30)))
    have HX7:=Aside0.mk (heap_alloc_new wr (.cells #[.string kid.f0,.slice D1 kid.f1.length m1,.slice D2 kid.f2.length m2] 30))
    have KV7:=Aside0.mk (KV.out.below (below_alloc (Below.refl _ wr) (.cells #[.string kid.f0,.slice D1 kid.f1.length m1,.slice D2 kid.f2.length m2] 30)))
    have hbg:g<wr.heap.size:=blk_lt HN.out.out
    have HVL:=Aside0.mk HN.out.row.lt
    generalize hW7:wr.alloc (.cells #[.string kid.f0,.slice D1 kid.f1.length m1,.slice D2 kid.f2.length m2] 30)=W7 at *
    clear hW7
    have hb7:wr.heap.size<W7.heap.size:=blk_lt HX7.out
    generalize wr.heap.size=b at *
    have CR:=Aside0.mk (fun (V:World) (hV:Below W7.heap.size W7 V)=>IHX.out V (KV7.out.below hV))
    have HL:Aside0 ((rows.length+1)*64≤140737488355328):=⟨by have:=HRL.out;omega⟩
    have o2:=blk_cell (blk_drew HN7.out.out) 2
    simp at o2
    have x0:=blk_cell (blk_drew HX7.out) 0
    have x1:=blk_cell (blk_drew HX7.out) 1
    have x2:=blk_cell (blk_drew HX7.out) 2
    simp at x0 x1 x2
    go_region_law
     (first
      |(go_simp;go_at_call 98;refine (CR.out _ (below_drew (Below.refl _ W7))).mono ?_;rintro e w8 ⟨hB,G1,n1,g1,G2,n2,g2,rfl⟩;have hB8:=below_step (below_drew (Below.refl _ W7)) hB;have HN8:=Aside0.mk (HN7.out.below_ hB8);have o3:=blk_cell HN8.out.out 2;have o4:=fun (o:Obj)=>blk_cell (blk_alloc HN8.out.out o) 2;simp at o3 o4;clear hB hB8)
      |(refine Row.append_step (Kd.raw 3) (W:=w8) rfl (.tmp 20) (.tmp 23) 28 30 (.agg #[.string ⟨#[]⟩,.slice none 0 0,.slice none 0 0]) 64 rfl Tryz.underlying28 info30c rfl (by decide) (by decide) (.slice Av nv cv) rows [.string kid.f0,.slice G1 n1 g1,.slice G2 n2 g2] [.string kid.f0,.slice G1 n1 g1,.slice G2 n2 g2] (fun _=>False) (by simp[Act.eval,Act.put]) (by simp[Act.eval,Act.put]) (fun _ _=>⟨rfl,rfl,by simp[Value.oneCell']⟩) (fun _ hk=>hk.elim) HN8.out.row HL.out ?_;intro v1 w9 hR1 hG hat;have HX:=Aside0.mk (And.intro hR1 (And.intro hG hat));have qo:=blk_grownBy hG HN8.out.out (fun e=>by have:=HN8.out.far _ e.symm;omega);have QO:=Aside0.mk qo;have f2:=blk_frozen qo 2;have r2:=blk_cell qo 2;simp at r2;obtain ⟨A9,c9,hv1⟩:=hR1.slice;generalize List.length _=n9 at hv1;subst hv1;clear hR1 hG hat qo))
    all_goals clear x0 x1 x2 o2 o3 o4 CR r2 f2 y0 y1 y2
    all_goals (
     have HNX:=Aside0.mk (HN8.out.next _ HX.out.1 HX.out.2.1 HX.out.2.2)
     have HRL2:Aside0 ((rows++[([.string kid.f0,.slice G1 n1 g1,.slice G2 n2 g2]:List Value)]).length=(y+1).toNat):=⟨by have:=HRL.out;rw[List.length_append];simp only[List.length_cons,List.length_nil];omega⟩
     clear hnv
     go_wp2
     go_roundw
     case rel=>exact ⟨y+1,rfl,by omega,by omega,⟨_,_,HRL2.out,HNX.out⟩⟩
     case measure=>simp[intOf];omega)
   ·have RR:=HN.out.out
    have RS:=Aside0.mk HN.out.res
    have r0:=blk_cell RR 0
    have r1:=blk_cell RR 1
    have r2:=blk_cell RR 2
    simp at r0 r1 r2
    have s0:=blk_cell RS.out 0
    have s1:=blk_cell RS.out 1
    have s2:=blk_cell RS.out 2
    have f0:=blk_frozen RS.out 0
    have f1:=blk_frozen RS.out 1
    have f2:=blk_frozen RS.out 2
    simp at s0 s1 s2
    clear RR hnv
    go_wp2
    refine bodyPost_ret (results_single rfl (.cell (w.heap.size+1) 30 _ (0,0) _ rfl (fin3 (W:=wr) RS.out (.string t.f0) (.slice B1 t.f1.length d1) (.slice Av nv cv)) Tryz.underlying30 rfl (by kernel_rfl) .nil)) rfl ?_
    exact CloneRet.mk_ (fin3_below HN.out.below (Nat.le_succ _) _ _ _)
theorem clone_calls:∀(n:Nat) (t:S30),nodes t≤n→Sm t→∀(w:World) (A1:Option Addr) (c1:Nat) (A2:Option Addr) (c2:Nat),TreeV w t A1 c1 A2 c2 →
  Calls Tryz.prog 98 #[.agg #[.string t.f0,.slice A1 t.f1.length c1,.slice A2 t.f2.length c2]] w (CloneRet w t.f0)
 |0,t,hn,_=>absurd hn (by have:=nodes_eq t;omega)
 |n+1,t,hn,hs=>fun w A1 c1 A2 c2 tv=>by
  have h:=(Sm.eq t).1 hs
  exact clone_step t w A1 c1 A2 c2 tv h.2.1 h.2.2.1 (fun x B1 d1 B2 d2 W hx hv=>clone_calls n x (by have:=nodes_mem hx;omega) (SmL.mem h.2.2.2 hx) W B1 d1 B2 d2 hv)
end
section
section
variable {P:Program} {ops:Array Oper} {Q:Exit→Act→World→Prop} {md:Region.Mode} {n:Nat}
theorem last_invIn (I:Array Bool→Act→World→Prop)
  (step:∀l a w i,I l a w→i∈Region.ready md ops l→wpOpIn Fence.wide n P ops Q i (fun a' w' =>I (l.setIfInBounds i true) a' w') a w) (fin:∀l a w,I l a w→Region.ready md ops l=[]→Q .normal a w) :
  ∀(fuel:Nat) (l:Array Bool) (a:Act) (w:World),cntF l≤fuel→I l a w→wpAnyIn Fence.wide n P md ops Q fuel l a w
 |0,l,a,w,hc,h=>by
  have hr:Region.ready md ops l=[]:=by
   cases hr:Region.ready md ops l with
   |nil=>rfl
   |cons i r =>
    have hf:=ready_false (show i∈Region.ready md ops l by rw[hr];simp)
    have:=cntF_set l i hf
    omega
  exact ⟨hr,fin l a w h hr⟩
 |fuel+1,l,a,w,hc,h=>by
  refine ⟨fun hr=>fin l a w h hr,fun i hi=> ?_⟩
  refine wpOpIn_mono (fun a' w' h' =>last_invIn I step fin fuel _ a' w' ?_ h') (step l a w i h hi)
  have:=cntF_set l i (ready_false hi)
  omega
theorem opIn_value {i:Nat} {o:Oper} {J:Act→World→Prop} {a:Act} {w w' :World} {v:Value} (hi:ops[i]? =some o) (hw:Region.wanted o (yielded ops a.tmps)=true) (hrun:(execOp a.eval o).run P w= .ok (.value v) w') (h:J (a.put o.dst v) w'):wpOpIn Fence.wide n P ops Q i J a w:=by
 refine wpOpIn_step hi (fun K hK=> ?_)
 rw[if_pos hw]
 refine ⟨fun _ _=>trivial,?_⟩
 rw[show Fence.wide.round=none from rfl,Oper.semAt_none,hrun]
 exact hK _ _ h
theorem opIn_call {i:Nat} {o:Oper} {J:Act→World→Prop} {a:Act} {w:World} {f:FuncId} {args:Array Value} (hi:ops[i]? =some o) (hw:Region.wanted o (yielded ops a.tmps)=true) (hrun:(execOp a.eval o).run P w= .ok (.enter f args) w)
  (h:Calls P f args w fun e w' =>∃v,e= .returned v∧J (a.put o.dst v) w'):wpOpIn Fence.wide n P ops Q i J a w:=by
 refine wpOpIn_step hi (fun K hK=> ?_)
 rw[if_pos hw]
 refine ⟨fun _ _=>trivial,?_⟩
 rw[show Fence.wide.round=none from rfl,Oper.semAt_none,hrun]
 refine ⟨fun h=>(by cases h),callsIn_wide.2 (h.mono fun e w' hh=> ?_)⟩
 obtain ⟨v,rfl,hv⟩:=hh
 exact hK _ _ hv
theorem opIn_yield {i:Nat} {o:Oper} {J:Act→World→Prop} {a:Act} {w:World} {l:Nat} {args:Array Value} {R:Ending→World→Prop} (hi:ops[i]? =some o) (hw:Region.wanted o (yielded ops a.tmps)=true) (hrun:(execOp a.eval o).run P w=(Instr.yield l args).run P w)
  (hY:YieldAt Fence.wide (n-1) P l args w R) (h:∀e w',R e w' →∃v,e= .returned v∧J (a.put o.dst v) w'):wpOpIn Fence.wide n P ops Q i J a w:=by
 obtain ⟨fn,tmps,assign,body,hy,hR⟩:=hY
 refine wpOpIn_step hi (fun K hK=> ?_)
 rw[if_pos hw]
 refine ⟨fun _ _=>trivial,?_⟩
 rw[show Fence.wide.round=none from rfl,Oper.semAt_none,hrun,hy]
 refine ⟨fun h=>(by cases h),hR.mono fun e w' hh=> ?_⟩
 obtain ⟨v,rfl,hv⟩:=h e w' hh
 exact hK _ _ hv
end
def lv_ (b0 b1 b2 b3 b4 b5 b6:Bool):Array Bool:= #[b0,b1,b2,b3,b4,b5,b6]
def rv_ (b0 b1 b2 b3 b4 b5 b6:Bool):List Nat:=(if !b0 then [0]else [])++(if !b1 then [1]else [])++(if b1 && !b2 then [2]else [])++(if !b3 then [3]else [])++(if b2 && b3 && !b4 then [4]else [])++(if b0 && b2 && b4 && !b5 then [5]else [])++(if b5 && !b6 then [6]else [])
def cv_ (ops:Array Oper):Bool:=bools.all fun b0=>bools.all fun b1=>bools.all fun b2=>bools.all fun b3=>bools.all fun b4=>bools.all fun b5=>bools.all fun b6=>Region.ready .any ops (lv_ b0 b1 b2 b3 b4 b5 b6) == rv_ b0 b1 b2 b3 b4 b5 b6
theorem cv_ready {ops:Array Oper} (h:cv_ ops=true) (b0 b1 b2 b3 b4 b5 b6:Bool):Region.ready .any ops (lv_ b0 b1 b2 b3 b4 b5 b6)=rv_ b0 b1 b2 b3 b4 b5 b6 :=
 eq_of_beq (List.all_eq_true.1 (List.all_eq_true.1 (List.all_eq_true.1 (List.all_eq_true.1 (List.all_eq_true.1 (List.all_eq_true.1 (List.all_eq_true.1 h b0 (mem_bools _)) b1 (mem_bools _)) b2 (mem_bools _)) b3 (mem_bools _)) b4 (mem_bools _)) b5 (mem_bools _)) b6 (mem_bools _))
theorem mem_rv {b0 b1 b2 b3 b4 b5 b6:Bool} {i:Nat} (h:i∈rv_ b0 b1 b2 b3 b4 b5 b6):(i=0∧b0=false)∨(i=1∧b1=false)∨(i=2∧b1=true∧b2=false)∨(i=3∧b3=false)∨(i=4∧b2=true∧b3=true∧b4=false)∨(i=5∧b0=true∧b2=true∧b4=true∧b5=false)∨(i=6∧b5=true∧b6=false):=by
 cases b0<;>cases b1<;>cases b2<;>cases b3<;>cases b4<;>cases b5<;>cases b6<;>simp[rv_]at h ⊢<;> omega
theorem visit1 {P:Program} {ops:Array Oper} {Q:Exit→Act→World→Prop} {n:Nat} {W0 W2:World} (fm:Value→Value→Value→Value→Value→Value→Value→Act) (yv pv tv:Value) (C2 C4:Value→Prop) (Jc:Bool→World→Prop) {o0 o1 o2 o3 o4 o5 o6:Oper}
  (e0:ops[0]? =some o0) (e1:ops[1]? =some o1) (e2:ops[2]? =some o2) (e3:ops[3]? =some o3) (e4:ops[4]? =some o4) (e5:ops[5]? =some o5) (e6:ops[6]? =some o6) (hR:cv_ ops=true)
  (p0:∀x0 x1 x2 x3 x4 x5 x6 v,(fm x0 x1 x2 x3 x4 x5 x6).put o0.dst v=fm v x1 x2 x3 x4 x5 x6) (p1:∀x0 x1 x2 x3 x4 x5 x6 v,(fm x0 x1 x2 x3 x4 x5 x6).put o1.dst v=fm x0 v x2 x3 x4 x5 x6) (p2:∀x0 x1 x2 x3 x4 x5 x6 v,(fm x0 x1 x2 x3 x4 x5 x6).put o2.dst v=fm x0 x1 v x3 x4 x5 x6) (p3:∀x0 x1 x2 x3 x4 x5 x6 v,(fm x0 x1 x2 x3 x4 x5 x6).put o3.dst v=fm x0 x1 x2 v x4 x5 x6)
  (p4:∀x0 x1 x2 x3 x4 x5 x6 v,(fm x0 x1 x2 x3 x4 x5 x6).put o4.dst v=fm x0 x1 x2 x3 v x5 x6) (p5:∀x0 x1 x2 x3 x4 x5 x6 v,(fm x0 x1 x2 x3 x4 x5 x6).put o5.dst v=fm x0 x1 x2 x3 x4 v x6) (p6:∀x0 x1 x2 x3 x4 x5 x6 v,(fm x0 x1 x2 x3 x4 x5 x6).put o6.dst v=fm x0 x1 x2 x3 x4 x5 v)
  (hW0:Below W2.heap.size W2 W0)
  (s0:∀x0 x1 x2 x3 x4 x5 x6 w (J:Act→World→Prop),Below W2.heap.size W2 w→J ((fm x0 x1 x2 x3 x4 x5 x6).put o0.dst yv) w→wpOpIn Fence.wide n P ops Q 0 J (fm x0 x1 x2 x3 x4 x5 x6) w)
  (s1:∀x0 x1 x2 x3 x4 x5 x6 w (J:Act→World→Prop),J ((fm x0 x1 x2 x3 x4 x5 x6).put o1.dst pv) w→wpOpIn Fence.wide n P ops Q 1 J (fm x0 x1 x2 x3 x4 x5 x6) w)
  (s2:∀x0 x2 x3 x4 x5 x6 w (J:Act→World→Prop),Below W2.heap.size W2 w→(∀v w',C2 v→Below w.heap.size w w' →J ((fm x0 pv x2 x3 x4 x5 x6).put o2.dst v) w')→wpOpIn Fence.wide n P ops Q 2 J (fm x0 pv x2 x3 x4 x5 x6) w)
  (s3:∀x0 x1 x2 x3 x4 x5 x6 w (J:Act→World→Prop),Below W2.heap.size W2 w→J ((fm x0 x1 x2 x3 x4 x5 x6).put o3.dst tv) w→wpOpIn Fence.wide n P ops Q 3 J (fm x0 x1 x2 x3 x4 x5 x6) w)
  (s4:∀x0 x1 x2 x4 x5 x6 w (J:Act→World→Prop),Below W2.heap.size W2 w→(∀v w',C4 v→Below w.heap.size w w' →J ((fm x0 x1 x2 tv x4 x5 x6).put o4.dst v) w')→wpOpIn Fence.wide n P ops Q 4 J (fm x0 x1 x2 tv x4 x5 x6) w)
  (s5:∀x1 x2 x3 x4 x5 x6 w (J:Act→World→Prop),C2 x2→C4 x4→Below W2.heap.size W2 w→(∀b w',Jc b w' →J ((fm yv x1 x2 x3 x4 x5 x6).put o5.dst (.bool b)) w')→wpOpIn Fence.wide n P ops Q 5 J (fm yv x1 x2 x3 x4 x5 x6) w)
  (s6:∀x0 x1 x2 x3 x4 b x6 w (J:Act→World→Prop),J ((fm x0 x1 x2 x3 x4 (.bool b) x6).put o6.dst (.bool !b)) w→wpOpIn Fence.wide n P ops Q 6 J (fm x0 x1 x2 x3 x4 (.bool b) x6) w)
  (fin:∀x2 x4 b w,Jc b w→Q .normal (fm yv pv x2 tv x4 (.bool b) (.bool !b)) w)
  (fuel:Nat) (hf:7≤fuel):wpAnyIn Fence.wide n P .any ops Q fuel (lv_ false false false false false false false) (fm undef undef undef undef undef undef undef) W0:=by
 refine last_invIn (I:=fun l a w=>∃(b0 b1 b2 b3 b4 b5 b6:Bool) (x0 x1 x2 x3 x4 x5 x6:Value),l=lv_ b0 b1 b2 b3 b4 b5 b6∧a=fm x0 x1 x2 x3 x4 x5 x6∧(b0=true→x0=yv)∧(b1=true→x1=pv)∧(b2=true→b1=true∧C2 x2)∧(b3=true→x3=tv)∧(b4=true→b2=true∧b3=true∧C4 x4) ∧
   (b5=true→b0=true∧b4=true∧∃b,x5= .bool b∧Jc b w∧(b6=true→x6= .bool !b))∧(b6=true→b5=true)∧(b5=false→Below W2.heap.size W2 w)) ?_ ?_ fuel _ _ _ hf ?_
 ·rintro l a w i ⟨b0,b1,b2,b3,b4,b5,b6,x0,x1,x2,x3,x4,x5,x6,rfl,rfl,h0,h1,h2,h3,h4,h5,h6,hB⟩ hi
  rw[cv_ready hR]at hi
  rcases mem_rv hi with ⟨rfl,rfl⟩ | ⟨rfl,rfl⟩ | ⟨rfl,rfl,rfl⟩ | ⟨rfl,rfl⟩ | ⟨rfl,rfl,rfl,rfl⟩ | ⟨rfl,rfl,rfl,rfl,rfl⟩ | ⟨rfl,rfl,rfl⟩
  ·have h5' :b5=false:=by
    cases b5 with
    |false=>rfl
    |true=>cases (h5 rfl).1
   subst h5'
   refine s0 x0 x1 x2 x3 x4 x5 x6 w _ (hB rfl) ?_
   rw[p0]
   exact ⟨true,b1,b2,b3,b4,false,b6,yv,x1,x2,x3,x4,x5,x6,rfl,rfl,fun _=>rfl,h1,h2,h3,h4,fun h=>(by cases h),fun h=>(by cases h6 h),fun _=>hB rfl⟩
  ·have h2' :b2=false:=by
    cases b2 with
    |false=>rfl
    |true=>cases (h2 rfl).1
   subst h2'
   have h4' :b4=false:=by
    cases b4 with
    |false=>rfl
    |true=>cases (h4 rfl).1
   subst h4'
   have h5' :b5=false:=by
    cases b5 with
    |false=>rfl
    |true=>cases (h5 rfl).2.1
   subst h5'
   refine s1 x0 x1 x2 x3 x4 x5 x6 w _ ?_
   rw[p1]
   exact ⟨b0,true,false,b3,false,false,b6,x0,pv,x2,x3,x4,x5,x6,rfl,rfl,h0,fun _=>rfl,fun h=>(by cases h),h3,fun h=>(by cases h),fun h=>(by cases h),fun h=>(by cases h6 h),fun _=>hB rfl⟩
  ·obtain rfl:=h1 rfl
   have h4' :b4=false:=by
    cases b4 with
    |false=>rfl
    |true=>cases (h4 rfl).1
   subst h4'
   have h5' :b5=false:=by
    cases b5 with
    |false=>rfl
    |true=>cases (h5 rfl).2.1
   subst h5'
   refine s2 x0 x2 x3 x4 x5 x6 w _ (hB rfl) (fun v w' hv hw=> ?_)
   rw[p2]
   exact ⟨b0,true,true,b3,false,false,b6,x0,x1,v,x3,x4,x5,x6,rfl,rfl,h0,fun _=>rfl,fun _=>⟨rfl,hv⟩,h3,fun h=>(by cases h),fun h=>(by cases h),fun h=>(by cases h6 h),fun _=>below_step (hB rfl) hw⟩
  ·have h4' :b4=false:=by
    cases b4 with
    |false=>rfl
    |true=>cases (h4 rfl).2.1
   subst h4'
   have h5' :b5=false:=by
    cases b5 with
    |false=>rfl
    |true=>cases (h5 rfl).2.1
   subst h5'
   refine s3 x0 x1 x2 x3 x4 x5 x6 w _ (hB rfl) ?_
   rw[p3]
   exact ⟨b0,b1,b2,true,false,false,b6,x0,x1,x2,tv,x4,x5,x6,rfl,rfl,h0,h1,h2,fun _=>rfl,fun h=>(by cases h),fun h=>(by cases h),fun h=>(by cases h6 h),fun _=>hB rfl⟩
  ·obtain rfl:=h3 rfl
   have h5' :b5=false:=by
    cases b5 with
    |false=>rfl
    |true=>cases (h5 rfl).2.1
   subst h5'
   refine s4 x0 x1 x2 x4 x5 x6 w _ (hB rfl) (fun v w' hv hw=> ?_)
   rw[p4]
   exact ⟨b0,b1,true,true,true,false,b6,x0,x1,x2,x3,v,x5,x6,rfl,rfl,h0,h1,h2,fun _=>rfl,fun _=>⟨rfl,rfl,hv⟩,fun h=>(by cases h),fun h=>(by cases h6 h),fun _=>below_step (hB rfl) hw⟩
  ·obtain rfl:=h0 rfl
   have h6' :b6=false:=by
    cases b6 with
    |false=>rfl
    |true=>cases h6 rfl
   subst h6'
   refine s5 x1 x2 x3 x4 x5 x6 w _ (h2 rfl).2 (h4 rfl).2.2 (hB rfl) (fun b w' hj=> ?_)
   rw[p5]
   exact ⟨true,b1,true,b3,true,true,false,x0,x1,x2,x3,x4,.bool b,x6,rfl,rfl,fun _=>rfl,h1,h2,h3,h4,fun _=>⟨rfl,rfl,b,rfl,hj,fun h=>(by cases h)⟩,fun h=>(by cases h),fun h=>(by cases h)⟩
  ·obtain ⟨q0,q4,b,rfl,hj,_⟩:=h5 rfl
   refine s6 x0 x1 x2 x3 x4 b x6 w _ ?_
   rw[p6]
   exact ⟨b0,b1,b2,b3,b4,true,true,x0,x1,x2,x3,x4,.bool b,.bool !b,rfl,rfl,h0,h1,h2,h3,h4,fun _=>⟨q0,q4,b,rfl,hj,fun _=>rfl⟩,fun _=>rfl,fun h=>(by cases h)⟩
 ·rintro l a w ⟨b0,b1,b2,b3,b4,b5,b6,x0,x1,x2,x3,x4,x5,x6,rfl,rfl,h0,h1,h2,h3,h4,h5,h6,hB⟩ hr
  rw[cv_ready hR]at hr
  cases b0<;>cases b1<;>cases b2<;>cases b3<;>cases b4<;>cases b5<;>cases b6<;>simp[rv_]at hr
  obtain rfl:=h0 rfl
  obtain rfl:=h1 rfl
  obtain rfl:=h3 rfl
  obtain ⟨_,_,b,rfl,hj,h7⟩:=h5 rfl
  obtain rfl:=h7 rfl
  exact fin x2 x4 b w hj
 ·exact ⟨false,false,false,false,false,false,false,undef,undef,undef,undef,undef,undef,undef,rfl,rfl,fun h=>(by cases h),fun h=>(by cases h),fun h=>(by cases h),fun h=>(by cases h),fun h=>(by cases h),fun h=>(by cases h),fun h=>(by cases h),fun _=>hW0⟩
end
end Go.Proofs.YtcfjomnihhdpaaaGreatDoor.A
