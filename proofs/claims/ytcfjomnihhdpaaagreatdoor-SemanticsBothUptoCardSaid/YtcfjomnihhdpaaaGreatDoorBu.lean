/-
  The walk of SemanticsBoth, and its row and card.
-/
import Derived.Test.YtcfjomnihhdpaaaGreatDoorCards
import Derived.Test.YtcfjomnihhdpaaaGreatDoorBu17
import Derived.Test.YtcfjomnihhdpaaaGreatDoorBu19
import Derived.Test.YtcfjomnihhdpaaaGreatDoorBu20
namespace Go.Proofs.YtcfjomnihhdpaaaGreatDoor.semanticsBoth
open Go.ChangeShapes Go.WideShapes Go.ChangeAt Go.RowKit
open Go.Proofs.YtcfjomnihhdpaaaGreatDoor.A
set_option linter.unusedVariables false
set_option maxRecDepth 100000 in
theorem contract (H:Type) (enc:TypeId×Value→H) (W:World) (base:Nat) (args:Array Value) (ds gs:List (DataW H)) (before:List MemPlace)
  (hval:∀(j:Nat) t v,Tryz.f9.params[j]? =some t→args[j]? =some v→Value.okWide Tryz.prog W .any base t v)
  (hW:DataW.Whole enc Tryz.prog Tryz.f9.params.toList Rows.semanticsBothSpec.vars false W args.toList ds gs before) (hk:Rows.uptoSmall H (ds++gs)=true) (hT:Tabs Lib.goPrintTabs W) :
  Calls Tryz.prog 9 args W fun e W' =>∃v,e= .returned v∧Rows.semanticsBothSpec.post enc Tryz.prog Tryz.f9 false true false false W args v W' :=by
 have hW' :=hW
 obtain ⟨p,q,hA0,hV,rfl,hfz,hnd⟩:=hW
 have hA:DataW.TrodAll enc Tryz.prog W 0 (fun _=>true) true Tryz.f9.params.toList args.toList ds p:=hA0
 rw[Tryz.params9]at hA hval
 obtain ⟨v0,vs0,d0,ds0,p0,q0,hargs,rfl,rfl,h0,r0⟩:=trodAll_cons hA
 obtain ⟨v1,vs1,d1,ds1,p1,q1,rfl,rfl,rfl,h1,r1⟩:=trodAll_cons r0
 obtain ⟨v2,vs2,d2,ds2,p2,q2,rfl,rfl,rfl,h2,r2⟩:=trodAll_cons r1
 obtain ⟨v3,vs3,d3,ds3,p3,q3,rfl,rfl,rfl,h3,r3⟩:=trodAll_cons r2
 obtain ⟨rfl,rfl,rfl⟩:=trodAll_nil r3
 obtain rfl:args= #[v0,v1,v2,v3]:=by cases args;simp_all
 obtain ⟨rfl,rfl⟩:=trodVars_none hV
 have hsm:Rows.uptoBulk d0+Rows.uptoBulk d1+Rows.uptoBulk d2+Rows.uptoBulk d3≤1048576:=by
  have:=of_decide_eq_true hk
  simp only[List.append_nil,Rows.uptoBulkAll]at this
  omega
 simp only[List.append_nil]at hW'
 have k0:=h0
 have lt0:∀x∈p0,x.block<W.heap.size:=by obtain ⟨m,hm⟩:=k0;exact DataW.trod_lt m _ _ _ hm
 obtain ⟨fuel0,hf0⟩:=h0
 obtain ⟨x0,hcs0,hb0⟩:=open_sig hf0
 obtain rfl:=agg3 hcs0
 have sg0:=hb0 (by show Rows.uptoBulk d0≤1048576;omega)
 have k1:=h1
 have lt1:∀x∈p1,x.block<W.heap.size:=by obtain ⟨m,hm⟩:=k1;exact DataW.trod_lt m _ _ _ hm
 obtain ⟨fuel1,hf1⟩:=h1
 obtain ⟨x1,A1,c1,B1,e1,hcs1,tv1,hb1⟩:=(open_treesC fuel1).1 _ _ hf1
 obtain rfl:=agg3 hcs1
 have hbk1:Go.Proofs.YtcfjomnihhdpaaaGreatDoor.A.big x1≤Rows.uptoBulk d1:=hb1
 have sm1:Go.Proofs.YtcfjomnihhdpaaaGreatDoor.A.big x1≤1048576:=by omega
 have k2:=h2
 have lt2:∀x∈p2,x.block<W.heap.size:=by obtain ⟨m,hm⟩:=k2;exact DataW.trod_lt m _ _ _ hm
 obtain ⟨fuel2,hf2⟩:=h2
 obtain ⟨x2,A2,c2,B2,e2,hcs2,tv2,hb2⟩:=(open_treesC fuel2).1 _ _ hf2
 obtain rfl:=agg3 hcs2
 have hbk2:Go.Proofs.YtcfjomnihhdpaaaGreatDoor.A.big x2≤Rows.uptoBulk d2:=hb2
 have sm2:Go.Proofs.YtcfjomnihhdpaaaGreatDoor.A.big x2≤1048576:=by omega
 have k3:=h3
 have lt3:∀x∈p3,x.block<W.heap.size:=by obtain ⟨m,hm⟩:=k3;exact DataW.trod_lt m _ _ _ hm
 obtain ⟨fuel3,hf3⟩:=h3
 obtain ⟨x3,A3,c3,B3,e3,hcs3,tv3,hb3⟩:=(open_treesC fuel3).1 _ _ hf3
 obtain rfl:=agg3 hcs3
 have hbk3:Go.Proofs.YtcfjomnihhdpaaaGreatDoor.A.big x3≤Rows.uptoBulk d3:=hb3
 have sm3:Go.Proofs.YtcfjomnihhdpaaaGreatDoor.A.big x3≤1048576:=by omega
 refine (both_walk _ W hT x0 x1 x2 x3 A1 c1 B1 e1 A2 c2 B2 e2 A3 c3 B3 e3 sg0 tv1 tv2 tv3 (sm_big x1 (by omega)) (sm_big x2 (by omega)) (sm_big x3 (by omega)) (by have:=nodes_big x1;omega) (by have:=nodes_big x2;omega) (by have:=nodes_big x3;omega)).mono fun e W' ⟨he,bel⟩=> ?_
 subst he
 exact ⟨_,rfl,_,_,_,[],_,[],hW',trodAll_mk1 (shut_bool Tryz.underlying4 _),(trodAll_cons_mk (Below.trod laidOut (by kernel_rfl) (of_decide_eq_true (by kernel_rfl)) k0 bel lt0) (trodAll_cons_mk (Below.trod laidOut (by kernel_rfl) (of_decide_eq_true (by kernel_rfl)) k1 bel lt1) (trodAll_cons_mk (Below.trod laidOut (by kernel_rfl) (of_decide_eq_true (by kernel_rfl)) k2 bel lt2) (trodAll_cons_mk (Below.trod laidOut (by kernel_rfl) (of_decide_eq_true (by kernel_rfl)) k3 bel lt3) trodAll_mk0)))),rfl,bel.frame _,fun h=>by cases h⟩
theorem reads (os:Os) {H:Type} (enc:TypeId×Value→H):∃places,DataW.whole enc Tryz.prog ((w0 os).forCall (fun _ _=>0) ⟨#[],#[.agg #[.slice none 0 0,.slice none 0 0,.slice none 0 0],.agg #[.string ⟨#[]⟩,.slice none 0 0,.slice none 0 0],.agg #[.string ⟨#[]⟩,.slice none 0 0,.slice none 0 0],.agg #[.string ⟨#[]⟩,.slice none 0 0,.slice none 0 0]],[]⟩).memory Tryz.f9.params.toList Rows.semanticsBothSpec.vars false (#[.agg #[.slice none 0 0,.slice none 0 0,.slice none 0 0],.agg #[.string ⟨#[]⟩,.slice none 0 0,.slice none 0 0],.agg #[.string ⟨#[]⟩,.slice none 0 0,.slice none 0 0],.agg #[.string ⟨#[]⟩,.slice none 0 0,.slice none 0 0]]:Array Value).toList 8=some ([.agg [.nil,.nil,.nil],.agg [.lit (.string []),.nil,.nil],.agg [.lit (.string []),.nil,.nil],.agg [.lit (.string []),.nil,.nil]],[],places) :=
 ⟨[],by kernel_rfl⟩
set_option maxRecDepth 100000 in
theorem lifted (os:Os) (started:os.Started) (H:Type) (enc:TypeId×Value→H) (F:Stop.Interp) :
  ReturnsInHanded {} Tryz.checked os 9 .any ((Rows.OpenSpec.upto Rows.semanticsBothSpec).preRow enc Tryz.prog Tryz.f9 Rows.semanticsBothUptoRow.domain false Rows.semanticsBothUptoRow.laid) (((Rows.OpenSpec.upto Rows.semanticsBothSpec).at F).post enc Tryz.prog Tryz.f9 false true false false):=by
 obtain ⟨places,hx⟩:=reads os enc
 refine returnsInHanded_of_row (C:=Tryz.checked) (s:=Rows.OpenSpec.upto Rows.semanticsBothSpec) own started (by kernel_rfl) Tryz.func9
  (row_witness (enc:=enc) os #[.agg #[.slice none 0 0,.slice none 0 0,.slice none 0 0],.agg #[.string ⟨#[]⟩,.slice none 0 0,.slice none 0 0],.agg #[.string ⟨#[]⟩,.slice none 0 0,.slice none 0 0],.agg #[.string ⟨#[]⟩,.slice none 0 0,.slice none 0 0]] (by kernel_rfl)
   (OpenSpec.preRow_of_cond 8 hx (by kernel_rfl) (fun k hk=>by cases hk;kernel_rfl) (by kernel_rfl) (w0_met os _))) ?_
 intro W base args ds gs before hval hW _ hcond _ hL _ _
 exact contract H enc W base args ds gs before hval hW (hcond _ rfl) (tabs_of_laid hL)
set_option maxRecDepth 100000 in
theorem saidUpto:Rows.SemanticsBothUptoSaid :=
 OpenClaim.holds_of_cond 9 Tryz.f9 rfl rfl rfl rfl rfl rfl rfl ⟨rfl,rfl,rfl,rfl,rfl⟩ rfl rfl rfl rfl rfl (by kernel_rfl) Tryz.func9 (by kernel_rfl)
  (of_decide_eq_true (by kernel_rfl)) (by unfold Func.isWrapper;first | (rw[if_pos (by decide +kernel)];kernel_rfl) | (rw[if_neg (by decide +kernel)];exact ⟨rfl,rfl⟩))
  (fun os started H enc _ F=>by rw[OpenClaim.pre_eq_preRow];exact lifted os started H enc F)
theorem plain (f:FuncId) (fn:Func) (hf:Tryz.pinned.checked.prog.funcNamed "pentaglot/pentaglotlaw32.SemanticsBoth" =some f) (hfn:Tryz.pinned.checked.prog.funcs[f]? =some fn) :
  true=Tryz.pinned.checked.prog.looks []∧∀(j:Nat) t,fn.params[j]? =some t→Tryz.pinned.checked.prog.wantsStandIn t=false:=by
 obtain rfl:f=9:=Option.some.inj ((show Tryz.prog.funcNamed "pentaglot/pentaglotlaw32.SemanticsBoth" =some 9 by kernel_rfl).symm.trans hf) |>.symm
 obtain rfl:fn=Tryz.f9:=(Option.some.inj (Tryz.func9.symm.trans hfn)).symm
 refine ⟨by kernel_rfl,fun j t ht=> ?_⟩
 rw[Tryz.params9]at ht
 have hm:t∈[26,30,30,30]:=by simpa using Array.mem_of_getElem? ht
 have hall:([26,30,30,30].all fun u=> !Tryz.prog.wantsStandIn u)=true:=by kernel_rfl
 exact (show Tryz.prog.wantsStandIn t=false by simpa using List.all_eq_true.1 hall t hm)
theorem cardUpto:Rows.SemanticsBothUptoCardSaid :=
 Claim7.holds_tied_plain_at .later [] _ _ _ _ saidUpto (fun _ h=>by cases h) (by kernel_rfl) (fun _ h=>by cases h) semanticsBothUpto_row_tie rfl ⟨rfl,rfl⟩ (by kernel_rfl) rfl plain (by kernel_rfl)
end Go.Proofs.YtcfjomnihhdpaaaGreatDoor.semanticsBoth
