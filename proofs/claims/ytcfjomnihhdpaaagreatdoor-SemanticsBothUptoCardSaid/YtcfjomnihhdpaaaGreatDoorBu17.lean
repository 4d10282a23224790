/-
  A part of the proof: R98, R99, R100, Q28, Q30, Q31.
-/
import Derived.Test.YtcfjomnihhdpaaaGreatDoorRows
import Derived.Deep.Slices
import Derived.ChangeArms
import Derived.PinnedBridge
import Derived.Lib.LaidU8
import Derived.Lib.LaidPrint
import Derived.Lib.LaidTab
import Derived.Stop.LaidErr
import Derived.Lay
import Derived.WalkKit
import Derived.ProofKit
import Derived.OpenShut
import Derived.ShutString
import Derived.ChangeOld
import Derived.Below
import Derived.SizedLaws
import Derived.LaidLaws
import Derived.MakeChecks
import Derived.Deep.DeepHandedRow
import Derived.Test.YtcfjomnihhdpaaaGreatDoorBu14
import Derived.Test.YtcfjomnihhdpaaaGreatDoorBu16
namespace Go.Proofs.YtcfjomnihhdpaaaGreatDoor.A
open Go.RowKit Go.Proofs.YtcfjomnihhdpaaaGreatDoorW.PrintWords Go.Proofs.YtcfjomnihhdpaaaGreatDoorW.PrintLast Go.Proofs.YtcfjomnihhdpaaaGreatDoorW.PrintMore
set_option linter.unusedVariables false
set_option linter.unusedSimpArgs false
section
attribute [local go_sem] Oper.semAt_some
theorem sm_tCarry:Sm tCarry:=by
 simp[tCarry,tMarta,Sm,SmL]
 decide
theorem nn_tCarry:nodes tCarry≤500:=by decide +kernel
theorem sm_tSmoke:Sm tSmoke:=by
 simp[tSmoke,tMarta,Sm,SmL]
 decide
theorem nn_tSmoke:nodes tSmoke≤500:=by decide +kernel
theorem sm_tCapt:Sm tCapt:=by
 simp[tCapt,tMarta,Sm,SmL]
 decide
theorem nn_tCapt:nodes tCapt≤500:=by decide +kernel
theorem sm_tWait:Sm tWait:=by
 simp[tWait,tMarta,Sm,SmL]
 decide
theorem nn_tWait:nodes tWait≤500:=by decide +kernel
theorem sm_tBag:Sm tBag:=by
 simp[tBag,tMarta,Sm,SmL]
 decide
theorem nn_tBag:nodes tBag≤500:=by decide +kernel
set_option maxHeartbeats 4000000 in
set_option maxRecDepth 100000 in
theorem reg13_4 (T:Lib.PrintTabs) (s:Sg) (f:Nat→Value) (W:World) (g1 g3:Nat) (hf1:f 1= .pointer (some ⟨g1,0,none⟩)) (hf3:f 3= .pointer (some ⟨g3,0,none⟩)) (hS:AtS W g1 s) (hA3:AtT W g3 tCarry) (hT:Tabs T W) :
  Code.wp Tryz.prog (.region 4 (opsOf Tryz.f13 4) false) (OnN (fun a w' =>∃f',a=fr13 f' ∧f' 1=f 1∧f' 2=f 2∧Is37 w' (f' 4) (senP s tCarry)∧f' 5= .int .i64 (codeOf (senP s tCarry))∧Below W.heap.size W w')) (fr13 f) W:=by
 simp only[opsOf,Tryz.f13,Option.bind_some,opsIn,Option.getD_some,Option.orElse,reduceIte,Nat.reduceEqDiff,Option.or_some,Option.none_or,Option.some_or,beq_iff_eq,Nat.reduceBEq,Bool.false_eq_true]
 refine wp_region_list ?_
 refine list_op (i:=0) rfl (op_loadS rfl rfl rfl hf1 hS ?_)
 change wpList _ _ _ _ (fr13 (upd f 35 (sgV s))) _
 refine list_op (i:=1) rfl (op_loadT rfl rfl rfl hf3 hA3 fun v1 h1=> ?_)
 change wpList _ _ _ _ (fr13 (upd (upd f 35 (sgV s)) 36 v1)) _
 refine list_op (i:=2) rfl (op_sent (T:=T) (s:=s) rfl rfl rfl rfl rfl h1 hT hS.2 sm_tCarry nn_tCarry fun v2 w2 h2 b2=> ?_)
 generalize codeOf (senP s tCarry)=c at *
 change wpList _ _ _ _ (fr13 (upd (upd (upd f 35 (sgV s)) 36 v1) 37 (.tuple #[v2,.int .i64 c]))) _
 refine list_op (i:=3) rfl (op_mv rfl rfl rfl rfl ?_)
 change wpList _ _ _ _ (fr13 (upd (upd (upd (upd f 35 (sgV s)) 36 v1) 37 (.tuple #[v2,.int .i64 c])) 34 (.tuple #[v2,.int .i64 c]))) _
 refine list_op (i:=4) rfl (op_ext rfl rfl rfl rfl rfl ?_)
 change wpList _ _ _ _ (fr13 (upd (upd (upd (upd (upd f 35 (sgV s)) 36 v1) 37 (.tuple #[v2,.int .i64 c])) 34 (.tuple #[v2,.int .i64 c])) 38 v2)) _
 refine list_op (i:=5) rfl (op_ext rfl rfl rfl rfl rfl ?_)
 change wpList _ _ _ _ (fr13 (upd (upd (upd (upd (upd (upd f 35 (sgV s)) 36 v1) 37 (.tuple #[v2,.int .i64 c])) 34 (.tuple #[v2,.int .i64 c])) 38 v2) 39 (.int .i64 c))) _
 refine list_op (i:=6) rfl (op_new37 rfl rfl rfl ?_)
 change wpList _ _ _ _ (fr13 (upd (upd (upd (upd (upd (upd (upd f 35 (sgV s)) 36 v1) 37 (.tuple #[v2,.int .i64 c])) 34 (.tuple #[v2,.int .i64 c])) 38 v2) 39 (.int .i64 c)) 4 (.pointer (some ⟨w2.heap.size,0,none⟩)))) _
 refine list_op (i:=7) rfl (op_store37 rfl rfl rfl rfl rfl rfl (heap_alloc_new _ _) ((h2.mono (ok' :=fun k=>k≠w2.heap.size) (fun k _ hk=>by omega)).below (below_alloc (Below.refl _ _) _)) fun w7 h7 b7 _=> ?_)
 refine list_op (i:=8) rfl (op_asg rfl rfl rfl rfl ?_)
 change wpList _ _ _ _ (fr13 (upd (upd (upd (upd (upd (upd (upd (upd f 35 (sgV s)) 36 v1) 37 (.tuple #[v2,.int .i64 c])) 34 (.tuple #[v2,.int .i64 c])) 38 v2) 39 (.int .i64 c)) 4 (.pointer (some ⟨w2.heap.size,0,none⟩))) 5 (.int .i64 c))) _
 exact ⟨_,rfl,rfl,rfl,⟨w2.heap.size,rfl,h7⟩,rfl,b2.trans (((below_alloc (Below.refl w2.heap.size w2) _).trans (b7 w2.heap.size (Nat.le_refl _))).mono b2.size)⟩
def C13_5 (s:Sg) (B0:Nat):Nat→Value→Value→World→Prop
 |0,v,_,_=>v=sgV s
 |1,v,_,w=>IsT w tMarta v
 |2,v,_,w=>IsT w ⟨⟨#[115,109,111,107,101]⟩,[],[]⟩ v
 |3,v,_,w=>IsL w [⟨⟨#[115,109,111,107,101]⟩,[],[]⟩] v
 |4,v,_,w=>IsT w ⟨⟨#[65,99,116]⟩,[],[⟨⟨#[115,109,111,107,101]⟩,[],[]⟩]⟩ v
 |5,v,_,w=>IsL w [tMarta,⟨⟨#[65,99,116]⟩,[],[⟨⟨#[115,109,111,107,101]⟩,[],[]⟩]⟩] v
 |6,v,_,w=>IsT w ⟨⟨#[77,117,115,116,78,111,116]⟩,[],[tMarta,⟨⟨#[65,99,116]⟩,[],[⟨⟨#[115,109,111,107,101]⟩,[],[]⟩]⟩]⟩ v
 |7,v,_,w=>∃u,v= .tuple #[u,.int .i64 (codeOf (senP s tSmoke))]∧IsF w (fun _=>True) (senP s tSmoke) u
 |8,v,u,_=>v=u∧∃u,v= .tuple #[u,.int .i64 (codeOf (senP s tSmoke))]
 |9,v,u,_=>∃cs:List Value,u= .tuple (v::cs).toArray
 |10,v,_,_=>v= .int .i64 (codeOf (senP s tSmoke))
 |11,v,_,w=>∃g,v= .pointer (some ⟨g,0,none⟩)∧B0≤g∧w.heap[g]? =some zero37
 |13,v,_,_=>v= .int .i64 (codeOf (senP s tSmoke))
 |_,_,_,_=>True
def P13_5 (s:Sg):Nat→Value→Value→Prop
 |8,v,_=>∃u,v= .tuple #[u,.int .i64 (codeOf (senP s tSmoke))]
 |10,v,_=>v= .int .i64 (codeOf (senP s tSmoke))
 |13,v,_=>v= .int .i64 (codeOf (senP s tSmoke))
 |_,_,_=>True
def late13_5:Nat→Bool
 |10=>true
 |_=>false
def par13_5:Nat→Nat
 |8=>7
 |9=>8
 |i=>i
set_option maxHeartbeats 4000000 in
set_option maxRecDepth 100000 in
theorem reg13_5 (T:Lib.PrintTabs) (s:Sg) (f:Nat→Value) (W:World) (g1 g2:Nat) (hf1:f 1= .pointer (some ⟨g1,0,none⟩)) (hf2:f 2= .pointer (some ⟨g2,0,none⟩)) (hS:AtS W g1 s) (hA2:AtT W g2 tMarta) (hT:Tabs T W) :
  Code.wp Tryz.prog (.region 5 (opsOf Tryz.f13 5) true) (OnN (fun a w' =>∃f',a=fr13 f' ∧f' 1=f 1∧f' 2=f 2∧f' 4=f 4∧f' 5=f 5∧Is37 w' (f' 6) (senP s tSmoke)∧f' 7= .int .i64 (codeOf (senP s tSmoke))∧Below W.heap.size W w')) (fr13 f) W:=by
 have HD:=below_drew (Below.refl W.heap.size W)
 simp only[opsOf,Tryz.f13,Option.bind_some,opsIn,Option.getD_some,Option.orElse,reduceIte,Nat.reduceEqDiff,Option.or_some,Option.none_or,Option.some_or,beq_iff_eq,Nat.reduceBEq,Bool.false_eq_true]
 have e0:fr13 f=fr13 (sl (fun i=>f (([41,42,43,44,45,46,47,48,40,49,50,6,999,7]:List Nat).getD i 0)) f [41,42,43,44,45,46,47,48,40,49,50,6,999,7]):=by kernel_rfl
 rw[e0]
 refine wp_region_any (by kernel_rfl) (region_two 12 (by decide) (fun x=>fr13 (sl x f [41,42,43,44,45,46,47,48,40,49,50,6,999,7])) par13_5 late13_5 (C13_5 s W.heap.size) (P13_5 s) 7 11 (E13 (senP s tSmoke)) (fun v w=>Is37 w v (senP s tSmoke)∧Below W.heap.size W w) W.drew (by kernel_rfl) (by kernel_rfl) (by kernel_rfl) (by kernel_rfl) rfl ?_ ?_ ?_ (fun _ _ _ _ h hB=>h.below hB) ?_ (by decide) ?_ ?_ ?_ _)
 ·intro i op x v ho
  match i,ho with
  |0,ho=>simp at ho;subst ho;show _=_;kernel_rfl
  |1,ho=>simp at ho;subst ho;show _=_;kernel_rfl
  |2,ho=>simp at ho;subst ho;show _=_;kernel_rfl
  |3,ho=>simp at ho;subst ho;show _=_;kernel_rfl
  |4,ho=>simp at ho;subst ho;show _=_;kernel_rfl
  |5,ho=>simp at ho;subst ho;show _=_;kernel_rfl
  |6,ho=>simp at ho;subst ho;show _=_;kernel_rfl
  |7,ho=>simp at ho;subst ho;show _=_;kernel_rfl
  |8,ho=>simp at ho;subst ho;show _=_;kernel_rfl
  |9,ho=>simp at ho;subst ho;show _=_;kernel_rfl
  |10,ho=>simp at ho;subst ho;show _=_;kernel_rfl
  |11,ho=>simp at ho;subst ho;show _=_;kernel_rfl
  |12,ho=>simp at ho;subst ho;show _=_;kernel_rfl
  |13,ho=>simp at ho;subst ho;show _=_;kernel_rfl
  |i+14,ho=>simp at ho
 ·intro i v u w h
  match i,h with
  |0,h=>trivial
  |1,h=>trivial
  |2,h=>trivial
  |3,h=>trivial
  |4,h=>trivial
  |5,h=>trivial
  |6,h=>trivial
  |7,h=>trivial
  |8,h=>exact h.2
  |9,h=>trivial
  |10,h=>exact h
  |11,h=>trivial
  |12,h=>trivial
  |13,h=>exact h
  |i+14,h=>trivial
 ·intro i v u w w' h hB
  match i,h with
  |0,h=>exact h
  |1,h=>exact IsT.below h hB
  |2,h=>exact IsT.below h hB
  |3,h=>exact IsL.below h hB
  |4,h=>exact IsT.below h hB
  |5,h=>exact IsL.below h hB
  |6,h=>exact IsT.below h hB
  |7,h=>exact Exists.imp (fun u hu=>⟨hu.1,hu.2.below hB⟩) h
  |8,h=>exact h
  |9,h=>exact h
  |10,h=>exact h
  |11,h=>exact Exists.imp (fun g hg=>⟨hg.1,hg.2.1,blk_below hg.2.2 hB⟩) h
  |12,h=>exact trivial
  |13,h=>exact h
  |i+14,h=>trivial
 ·intro i op x w J dn hi ho hB hdep hdn h
  have hBW:=below_step HD hB
  match i,hi,ho,hdep,h with
  |0,_,ho,hdep,h =>
   simp at ho
   subst ho
   exact op_loadS rfl rfl rfl hf1 (hS.below hBW) (h _ _ rfl (fun h=>absurd h (by decide)) (fun h=>absurd h (by decide)) (Below.refl _ _))
  |1,_,ho,hdep,h =>
   simp at ho
   subst ho
   exact op_loadT rfl rfl rfl hf2 (hA2.below hBW) fun u hu=>h u w hu (fun h=>absurd h (by decide)) (fun h=>absurd h (by decide)) (Below.refl _ _)
  |2,_,ho,hdep,h =>
   simp at ho
   subst ho
   exact op_leaf rfl rfl rfl fun u w' hu hB=>h u w' hu (fun h=>absurd h (by decide)) (fun h=>absurd h (by decide)) hB
  |3,_,ho,hdep,h =>
   simp at ho
   subst ho
   have d2:=hdep ⟨2,.data⟩ (by simp) rfl
   exact op_row1 rfl rfl rfl rfl d2 fun u w' hu hB=>h u w' hu (fun h=>absurd h (by decide)) (fun h=>absurd h (by decide)) hB
  |4,_,ho,hdep,h =>
   simp at ho
   subst ho
   have d3:=hdep ⟨3,.data⟩ (by simp) rfl
   exact op_tree rfl rfl rfl rfl d3 fun u w' hu hB=>h u w' hu (fun h=>absurd h (by decide)) (fun h=>absurd h (by decide)) hB
  |5,_,ho,hdep,h =>
   simp at ho
   subst ho
   have d1:=hdep ⟨1,.data⟩ (by simp) rfl
   have d4:=hdep ⟨4,.data⟩ (by simp) rfl
   exact op_row2 rfl rfl rfl rfl rfl d1 d4 fun u w' hu hB=>h u w' hu (fun h=>absurd h (by decide)) (fun h=>absurd h (by decide)) hB
  |6,_,ho,hdep,h =>
   simp at ho
   subst ho
   have d5:=hdep ⟨5,.data⟩ (by simp) rfl
   exact op_tree rfl rfl rfl rfl d5 fun u w' hu hB=>h u w' hu (fun h=>absurd h (by decide)) (fun h=>absurd h (by decide)) hB
  |7,_,ho,hdep,h =>
   simp at ho
   subst ho
   have d0:=hdep ⟨0,.data⟩ (by simp) rfl
   have d6:=hdep ⟨6,.data⟩ (by simp) rfl
   exact op_sent (T:=T) (s:=s) (t:=tSmoke) rfl rfl rfl d0 rfl d6 (hT.below hBW) (hS.below hBW).2 sm_tSmoke nn_tSmoke fun u w' hu hB=>h _ w' ⟨u,rfl,hu.mono (fun _ _ _=>trivial)⟩ (fun _ hq=>E13.call hu (hdn 11 hq (by decide))) (fun h=>absurd h (by decide)) hB
  |8,_,ho,hdep,h =>
   simp at ho
   subst ho
   have d7:=hdep ⟨7,.data⟩ (by simp) rfl
   obtain ⟨u,e,_⟩:=d7
   exact op_mv rfl rfl rfl rfl (h _ _ ⟨rfl,⟨u,e⟩⟩ (fun h=>absurd h (by decide)) (fun h=>absurd h (by decide)) (Below.refl _ _))
  |9,_,ho,hdep,h =>
   simp at ho
   subst ho
   have d8:=hdep ⟨8,.data⟩ (by simp) rfl
   obtain ⟨_,u,e⟩:=d8
   exact op_ext rfl rfl rfl e rfl (h _ _ ⟨_,e⟩ (fun h=>absurd h (by decide)) (fun h=>absurd h (by decide)) (Below.refl _ _))
  |10,_,ho,hdep,h =>
   simp at ho
   subst ho
   have d8:=hdep ⟨8,.data⟩ (by simp) rfl
   obtain ⟨_,u,e⟩:=d8
   exact op_ext rfl rfl rfl e rfl (h _ _ rfl (fun h=>absurd h (by decide)) (fun h=>absurd h (by decide)) (Below.refl _ _))
  |11,_,ho,hdep,h =>
   simp at ho
   subst ho
   refine op_new37 rfl rfl rfl (h _ _ ⟨w.heap.size,rfl,hBW.size,heap_alloc_new _ _⟩ (fun h=>absurd h (by decide)) (fun _ hq=> ?_) (below_alloc (Below.refl _ _) _))
   obtain ⟨u,e,hu⟩:=hdn 7 hq (by decide)
   exact E13.new _ e hu
  |i+12,hi,ho,hdep,h=>exact absurd hi (by omega)
 ·intro op x w J ho hB hx hE h
  simp at ho
  subst ho
  have hBW:=below_step HD hB
  obtain ⟨g,e11,hg0,hz⟩:=hx 11 (by decide) rfl
  obtain ⟨cs,e9⟩:=hx 9 (by decide) rfl
  have e8:=(hx 8 (by decide) rfl).1
  have hF:=hE (x 9) g ⟨cs,e8.symm.trans e9⟩ e11
  exact op_store37 rfl rfl rfl rfl e11 rfl hz hF fun w' h37 hbel _=>h undef w' ⟨⟨g,e11,h37⟩,below_step HD (hB.trans (hbel W.drew.heap.size hg0))⟩
 ·intro i op x w J hi ho hdep h
  match i,hi,ho,hdep,h with
  |0,hi,ho,hdep,h=>exact absurd hi (by decide)
  |1,hi,ho,hdep,h=>exact absurd hi (by decide)
  |2,hi,ho,hdep,h=>exact absurd hi (by decide)
  |3,hi,ho,hdep,h=>exact absurd hi (by decide)
  |4,hi,ho,hdep,h=>exact absurd hi (by decide)
  |5,hi,ho,hdep,h=>exact absurd hi (by decide)
  |6,hi,ho,hdep,h=>exact absurd hi (by decide)
  |7,hi,ho,hdep,h=>exact absurd hi (by decide)
  |8,hi,ho,hdep,h=>exact absurd hi (by decide)
  |9,hi,ho,hdep,h=>exact absurd hi (by decide)
  |10,_,ho,hdep,h =>
   simp at ho
   subst ho
   obtain ⟨u,e⟩:=hdep ⟨8,.data⟩ (by simp) rfl (by decide)
   exact op_ext rfl rfl rfl e rfl (h _ rfl)
  |11,hi,ho,hdep,h=>exact absurd hi (by decide)
  |12,hi,ho,hdep,h=>exact absurd hi (by decide)
  |13,_,ho,hdep,h =>
   simp at ho
   subst ho
   have e:=hdep ⟨10,.data⟩ (by simp) rfl (by decide)
   exact op_asg rfl rfl rfl e (h _ rfl)
  |i+14,hi,ho,hdep,h=>simp at ho
 ·intro x w hx hD
  exact ⟨sl x f [41,42,43,44,45,46,47,48,40,49,50,6,999,7],rfl,rfl,rfl,rfl,rfl,hD.1,hx 13 (by decide) (by decide),hD.2⟩
def C13_6 (s:Sg) (B0:Nat):Nat→Value→Value→World→Prop
 |0,v,_,_=>v=sgV s
 |1,v,_,w=>IsT w tMarta v
 |2,v,_,w=>IsT w ⟨⟨#[99,97,114,114,121]⟩,[],[]⟩ v
 |3,v,_,w=>IsT w ⟨⟨#[99,97,112,116,97,105,110]⟩,[],[]⟩ v
 |4,v,_,w=>IsL w [⟨⟨#[99,97,112,116,97,105,110]⟩,[],[]⟩] v
 |5,v,_,w=>IsT w ⟨⟨#[78,97,109,101]⟩,[],[⟨⟨#[99,97,112,116,97,105,110]⟩,[],[]⟩]⟩ v
 |6,v,_,w=>IsL w [⟨⟨#[99,97,114,114,121]⟩,[],[]⟩,⟨⟨#[78,97,109,101]⟩,[],[⟨⟨#[99,97,112,116,97,105,110]⟩,[],[]⟩]⟩] v
 |7,v,_,w=>IsT w ⟨⟨#[68,111]⟩,[],[⟨⟨#[99,97,114,114,121]⟩,[],[]⟩,⟨⟨#[78,97,109,101]⟩,[],[⟨⟨#[99,97,112,116,97,105,110]⟩,[],[]⟩]⟩]⟩ v
 |8,v,_,w=>IsL w [tMarta,⟨⟨#[68,111]⟩,[],[⟨⟨#[99,97,114,114,121]⟩,[],[]⟩,⟨⟨#[78,97,109,101]⟩,[],[⟨⟨#[99,97,112,116,97,105,110]⟩,[],[]⟩]⟩]⟩] v
 |9,v,_,w=>IsT w ⟨⟨#[65,115,115,101,114,116]⟩,[],[tMarta,⟨⟨#[68,111]⟩,[],[⟨⟨#[99,97,114,114,121]⟩,[],[]⟩,⟨⟨#[78,97,109,101]⟩,[],[⟨⟨#[99,97,112,116,97,105,110]⟩,[],[]⟩]⟩]⟩]⟩ v
 |10,v,_,w=>∃u,v= .tuple #[u,.int .i64 (codeOf (senP s tCapt))]∧IsF w (fun _=>True) (senP s tCapt) u
 |11,v,u,_=>v=u∧∃u,v= .tuple #[u,.int .i64 (codeOf (senP s tCapt))]
 |12,v,u,_=>∃cs:List Value,u= .tuple (v::cs).toArray
 |13,v,_,_=>v= .int .i64 (codeOf (senP s tCapt))
 |14,v,_,w=>∃g,v= .pointer (some ⟨g,0,none⟩)∧B0≤g∧w.heap[g]? =some zero37
 |16,v,_,_=>v= .int .i64 (codeOf (senP s tCapt))
 |_,_,_,_=>True
def P13_6 (s:Sg):Nat→Value→Value→Prop
 |11,v,_=>∃u,v= .tuple #[u,.int .i64 (codeOf (senP s tCapt))]
 |13,v,_=>v= .int .i64 (codeOf (senP s tCapt))
 |16,v,_=>v= .int .i64 (codeOf (senP s tCapt))
 |_,_,_=>True
def late13_6:Nat→Bool
 |13=>true
 |_=>false
def par13_6:Nat→Nat
 |11=>10
 |12=>11
 |i=>i
set_option maxHeartbeats 4000000 in
set_option maxRecDepth 100000 in
theorem reg13_6 (T:Lib.PrintTabs) (s:Sg) (f:Nat→Value) (W:World) (g1 g2:Nat) (hf1:f 1= .pointer (some ⟨g1,0,none⟩)) (hf2:f 2= .pointer (some ⟨g2,0,none⟩)) (hS:AtS W g1 s) (hA2:AtT W g2 tMarta) (hT:Tabs T W) :
  Code.wp Tryz.prog (.region 6 (opsOf Tryz.f13 6) true) (OnN (fun a w' =>∃f',a=fr13 f' ∧f' 1=f 1∧f' 2=f 2∧f' 4=f 4∧f' 5=f 5∧f' 6=f 6∧f' 7=f 7∧Is37 w' (f' 8) (senP s tCapt)∧f' 9= .int .i64 (codeOf (senP s tCapt))∧Below W.heap.size W w')) (fr13 f) W:=by
 have HD:=below_drew (Below.refl W.heap.size W)
 simp only[opsOf,Tryz.f13,Option.bind_some,opsIn,Option.getD_some,Option.orElse,reduceIte,Nat.reduceEqDiff,Option.or_some,Option.none_or,Option.some_or,beq_iff_eq,Nat.reduceBEq,Bool.false_eq_true]
 have e0:fr13 f=fr13 (sl (fun i=>f (([52,53,54,55,56,57,58,59,60,61,62,51,63,64,8,999,9]:List Nat).getD i 0)) f [52,53,54,55,56,57,58,59,60,61,62,51,63,64,8,999,9]):=by kernel_rfl
 rw[e0]
 refine wp_region_any (by kernel_rfl) (region_two 15 (by decide) (fun x=>fr13 (sl x f [52,53,54,55,56,57,58,59,60,61,62,51,63,64,8,999,9])) par13_6 late13_6 (C13_6 s W.heap.size) (P13_6 s) 10 14 (E13 (senP s tCapt)) (fun v w=>Is37 w v (senP s tCapt)∧Below W.heap.size W w) W.drew (by kernel_rfl) (by kernel_rfl) (by kernel_rfl) (by kernel_rfl) rfl ?_ ?_ ?_ (fun _ _ _ _ h hB=>h.below hB) ?_ (by decide) ?_ ?_ ?_ _)
 ·intro i op x v ho
  match i,ho with
  |0,ho=>simp at ho;subst ho;show _=_;kernel_rfl
  |1,ho=>simp at ho;subst ho;show _=_;kernel_rfl
  |2,ho=>simp at ho;subst ho;show _=_;kernel_rfl
  |3,ho=>simp at ho;subst ho;show _=_;kernel_rfl
  |4,ho=>simp at ho;subst ho;show _=_;kernel_rfl
  |5,ho=>simp at ho;subst ho;show _=_;kernel_rfl
  |6,ho=>simp at ho;subst ho;show _=_;kernel_rfl
  |7,ho=>simp at ho;subst ho;show _=_;kernel_rfl
  |8,ho=>simp at ho;subst ho;show _=_;kernel_rfl
  |9,ho=>simp at ho;subst ho;show _=_;kernel_rfl
  |10,ho=>simp at ho;subst ho;show _=_;kernel_rfl
  |11,ho=>simp at ho;subst ho;show _=_;kernel_rfl
  |12,ho=>simp at ho;subst ho;show _=_;kernel_rfl
  |13,ho=>simp at ho;subst ho;show _=_;kernel_rfl
  |14,ho=>simp at ho;subst ho;show _=_;kernel_rfl
  |15,ho=>simp at ho;subst ho;show _=_;kernel_rfl
  |16,ho=>simp at ho;subst ho;show _=_;kernel_rfl
  |i+17,ho=>simp at ho
 ·intro i v u w h
  match i,h with
  |0,h=>trivial
  |1,h=>trivial
  |2,h=>trivial
  |3,h=>trivial
  |4,h=>trivial
  |5,h=>trivial
  |6,h=>trivial
  |7,h=>trivial
  |8,h=>trivial
  |9,h=>trivial
  |10,h=>trivial
  |11,h=>exact h.2
  |12,h=>trivial
  |13,h=>exact h
  |14,h=>trivial
  |15,h=>trivial
  |16,h=>exact h
  |i+17,h=>trivial
 ·intro i v u w w' h hB
  match i,h with
  |0,h=>exact h
  |1,h=>exact IsT.below h hB
  |2,h=>exact IsT.below h hB
  |3,h=>exact IsT.below h hB
  |4,h=>exact IsL.below h hB
  |5,h=>exact IsT.below h hB
  |6,h=>exact IsL.below h hB
  |7,h=>exact IsT.below h hB
  |8,h=>exact IsL.below h hB
  |9,h=>exact IsT.below h hB
  |10,h=>exact Exists.imp (fun u hu=>⟨hu.1,hu.2.below hB⟩) h
  |11,h=>exact h
  |12,h=>exact h
  |13,h=>exact h
  |14,h=>exact Exists.imp (fun g hg=>⟨hg.1,hg.2.1,blk_below hg.2.2 hB⟩) h
  |15,h=>exact trivial
  |16,h=>exact h
  |i+17,h=>trivial
 ·intro i op x w J dn hi ho hB hdep hdn h
  have hBW:=below_step HD hB
  match i,hi,ho,hdep,h with
  |0,_,ho,hdep,h =>
   simp at ho
   subst ho
   exact op_loadS rfl rfl rfl hf1 (hS.below hBW) (h _ _ rfl (fun h=>absurd h (by decide)) (fun h=>absurd h (by decide)) (Below.refl _ _))
  |1,_,ho,hdep,h =>
   simp at ho
   subst ho
   exact op_loadT rfl rfl rfl hf2 (hA2.below hBW) fun u hu=>h u w hu (fun h=>absurd h (by decide)) (fun h=>absurd h (by decide)) (Below.refl _ _)
  |2,_,ho,hdep,h =>
   simp at ho
   subst ho
   exact op_leaf rfl rfl rfl fun u w' hu hB=>h u w' hu (fun h=>absurd h (by decide)) (fun h=>absurd h (by decide)) hB
  |3,_,ho,hdep,h =>
   simp at ho
   subst ho
   exact op_leaf rfl rfl rfl fun u w' hu hB=>h u w' hu (fun h=>absurd h (by decide)) (fun h=>absurd h (by decide)) hB
  |4,_,ho,hdep,h =>
   simp at ho
   subst ho
   have d3:=hdep ⟨3,.data⟩ (by simp) rfl
   exact op_row1 rfl rfl rfl rfl d3 fun u w' hu hB=>h u w' hu (fun h=>absurd h (by decide)) (fun h=>absurd h (by decide)) hB
  |5,_,ho,hdep,h =>
   simp at ho
   subst ho
   have d4:=hdep ⟨4,.data⟩ (by simp) rfl
   exact op_tree rfl rfl rfl rfl d4 fun u w' hu hB=>h u w' hu (fun h=>absurd h (by decide)) (fun h=>absurd h (by decide)) hB
  |6,_,ho,hdep,h =>
   simp at ho
   subst ho
   have d2:=hdep ⟨2,.data⟩ (by simp) rfl
   have d5:=hdep ⟨5,.data⟩ (by simp) rfl
   exact op_row2 rfl rfl rfl rfl rfl d2 d5 fun u w' hu hB=>h u w' hu (fun h=>absurd h (by decide)) (fun h=>absurd h (by decide)) hB
  |7,_,ho,hdep,h =>
   simp at ho
   subst ho
   have d6:=hdep ⟨6,.data⟩ (by simp) rfl
   exact op_tree rfl rfl rfl rfl d6 fun u w' hu hB=>h u w' hu (fun h=>absurd h (by decide)) (fun h=>absurd h (by decide)) hB
  |8,_,ho,hdep,h =>
   simp at ho
   subst ho
   have d1:=hdep ⟨1,.data⟩ (by simp) rfl
   have d7:=hdep ⟨7,.data⟩ (by simp) rfl
   exact op_row2 rfl rfl rfl rfl rfl d1 d7 fun u w' hu hB=>h u w' hu (fun h=>absurd h (by decide)) (fun h=>absurd h (by decide)) hB
  |9,_,ho,hdep,h =>
   simp at ho
   subst ho
   have d8:=hdep ⟨8,.data⟩ (by simp) rfl
   exact op_tree rfl rfl rfl rfl d8 fun u w' hu hB=>h u w' hu (fun h=>absurd h (by decide)) (fun h=>absurd h (by decide)) hB
  |10,_,ho,hdep,h =>
   simp at ho
   subst ho
   have d0:=hdep ⟨0,.data⟩ (by simp) rfl
   have d9:=hdep ⟨9,.data⟩ (by simp) rfl
   exact op_sent (T:=T) (s:=s) (t:=tCapt) rfl rfl rfl d0 rfl d9 (hT.below hBW) (hS.below hBW).2 sm_tCapt nn_tCapt fun u w' hu hB=>h _ w' ⟨u,rfl,hu.mono (fun _ _ _=>trivial)⟩ (fun _ hq=>E13.call hu (hdn 14 hq (by decide))) (fun h=>absurd h (by decide)) hB
  |11,_,ho,hdep,h =>
   simp at ho
   subst ho
   have d10:=hdep ⟨10,.data⟩ (by simp) rfl
   obtain ⟨u,e,_⟩:=d10
   exact op_mv rfl rfl rfl rfl (h _ _ ⟨rfl,⟨u,e⟩⟩ (fun h=>absurd h (by decide)) (fun h=>absurd h (by decide)) (Below.refl _ _))
  |12,_,ho,hdep,h =>
   simp at ho
   subst ho
   have d11:=hdep ⟨11,.data⟩ (by simp) rfl
   obtain ⟨_,u,e⟩:=d11
   exact op_ext rfl rfl rfl e rfl (h _ _ ⟨_,e⟩ (fun h=>absurd h (by decide)) (fun h=>absurd h (by decide)) (Below.refl _ _))
  |13,_,ho,hdep,h =>
   simp at ho
   subst ho
   have d11:=hdep ⟨11,.data⟩ (by simp) rfl
   obtain ⟨_,u,e⟩:=d11
   exact op_ext rfl rfl rfl e rfl (h _ _ rfl (fun h=>absurd h (by decide)) (fun h=>absurd h (by decide)) (Below.refl _ _))
  |14,_,ho,hdep,h =>
   simp at ho
   subst ho
   refine op_new37 rfl rfl rfl (h _ _ ⟨w.heap.size,rfl,hBW.size,heap_alloc_new _ _⟩ (fun h=>absurd h (by decide)) (fun _ hq=> ?_) (below_alloc (Below.refl _ _) _))
   obtain ⟨u,e,hu⟩:=hdn 10 hq (by decide)
   exact E13.new _ e hu
  |i+15,hi,ho,hdep,h=>exact absurd hi (by omega)
 ·intro op x w J ho hB hx hE h
  simp at ho
  subst ho
  have hBW:=below_step HD hB
  obtain ⟨g,e11,hg0,hz⟩:=hx 14 (by decide) rfl
  obtain ⟨cs,e9⟩:=hx 12 (by decide) rfl
  have e8:=(hx 11 (by decide) rfl).1
  have hF:=hE (x 12) g ⟨cs,e8.symm.trans e9⟩ e11
  exact op_store37 rfl rfl rfl rfl e11 rfl hz hF fun w' h37 hbel _=>h undef w' ⟨⟨g,e11,h37⟩,below_step HD (hB.trans (hbel W.drew.heap.size hg0))⟩
 ·intro i op x w J hi ho hdep h
  match i,hi,ho,hdep,h with
  |0,hi,ho,hdep,h=>exact absurd hi (by decide)
  |1,hi,ho,hdep,h=>exact absurd hi (by decide)
  |2,hi,ho,hdep,h=>exact absurd hi (by decide)
  |3,hi,ho,hdep,h=>exact absurd hi (by decide)
  |4,hi,ho,hdep,h=>exact absurd hi (by decide)
  |5,hi,ho,hdep,h=>exact absurd hi (by decide)
  |6,hi,ho,hdep,h=>exact absurd hi (by decide)
  |7,hi,ho,hdep,h=>exact absurd hi (by decide)
  |8,hi,ho,hdep,h=>exact absurd hi (by decide)
  |9,hi,ho,hdep,h=>exact absurd hi (by decide)
  |10,hi,ho,hdep,h=>exact absurd hi (by decide)
  |11,hi,ho,hdep,h=>exact absurd hi (by decide)
  |12,hi,ho,hdep,h=>exact absurd hi (by decide)
  |13,_,ho,hdep,h =>
   simp at ho
   subst ho
   obtain ⟨u,e⟩:=hdep ⟨11,.data⟩ (by simp) rfl (by decide)
   exact op_ext rfl rfl rfl e rfl (h _ rfl)
  |14,hi,ho,hdep,h=>exact absurd hi (by decide)
  |15,hi,ho,hdep,h=>exact absurd hi (by decide)
  |16,_,ho,hdep,h =>
   simp at ho
   subst ho
   have e:=hdep ⟨13,.data⟩ (by simp) rfl (by decide)
   exact op_asg rfl rfl rfl e (h _ rfl)
  |i+17,hi,ho,hdep,h=>simp at ho
 ·intro x w hx hD
  exact ⟨sl x f [52,53,54,55,56,57,58,59,60,61,62,51,63,64,8,999,9],rfl,rfl,rfl,rfl,rfl,rfl,rfl,hD.1,hx 16 (by decide) (by decide),hD.2⟩
def C13_7 (s:Sg) (B0:Nat):Nat→Value→Value→World→Prop
 |0,v,_,_=>v=sgV s
 |1,v,_,w=>IsT w ⟨⟨#[73,116]⟩,[],[]⟩ v
 |2,v,_,w=>IsT w ⟨⟨#[119,97,105,116]⟩,[],[]⟩ v
 |3,v,_,w=>IsL w [⟨⟨#[119,97,105,116]⟩,[],[]⟩] v
 |4,v,_,w=>IsT w ⟨⟨#[65,99,116]⟩,[],[⟨⟨#[119,97,105,116]⟩,[],[]⟩]⟩ v
 |5,v,_,w=>IsL w [⟨⟨#[73,116]⟩,[],[]⟩,⟨⟨#[65,99,116]⟩,[],[⟨⟨#[119,97,105,116]⟩,[],[]⟩]⟩] v
 |6,v,_,w=>IsT w ⟨⟨#[65,115,115,101,114,116]⟩,[],[⟨⟨#[73,116]⟩,[],[]⟩,⟨⟨#[65,99,116]⟩,[],[⟨⟨#[119,97,105,116]⟩,[],[]⟩]⟩]⟩ v
 |7,v,_,w=>∃u,v= .tuple #[u,.int .i64 (codeOf (senP s tWait))]∧IsF w (fun _=>True) (senP s tWait) u
 |8,v,u,_=>v=u∧∃u,v= .tuple #[u,.int .i64 (codeOf (senP s tWait))]
 |9,v,u,_=>∃cs:List Value,u= .tuple (v::cs).toArray
 |10,v,_,_=>v= .int .i64 (codeOf (senP s tWait))
 |11,v,_,w=>∃g,v= .pointer (some ⟨g,0,none⟩)∧B0≤g∧w.heap[g]? =some zero37
 |13,v,_,_=>v= .int .i64 (codeOf (senP s tWait))
 |_,_,_,_=>True
def P13_7 (s:Sg):Nat→Value→Value→Prop
 |8,v,_=>∃u,v= .tuple #[u,.int .i64 (codeOf (senP s tWait))]
 |10,v,_=>v= .int .i64 (codeOf (senP s tWait))
 |13,v,_=>v= .int .i64 (codeOf (senP s tWait))
 |_,_,_=>True
def late13_7:Nat→Bool
 |10=>true
 |_=>false
def par13_7:Nat→Nat
 |8=>7
 |9=>8
 |i=>i
set_option maxHeartbeats 4000000 in
set_option maxRecDepth 100000 in
theorem reg13_7 (T:Lib.PrintTabs) (s:Sg) (f:Nat→Value) (W:World) (g1 g2:Nat) (hf1:f 1= .pointer (some ⟨g1,0,none⟩)) (hf2:f 2= .pointer (some ⟨g2,0,none⟩)) (hS:AtS W g1 s) (hA2:AtT W g2 tMarta) (hT:Tabs T W) :
  Code.wp Tryz.prog (.region 7 (opsOf Tryz.f13 7) true) (OnN (fun a w' =>∃f',a=fr13 f' ∧f' 1=f 1∧f' 2=f 2∧f' 4=f 4∧f' 5=f 5∧f' 6=f 6∧f' 7=f 7∧f' 8=f 8∧f' 9=f 9∧Is37 w' (f' 10) (senP s tWait)∧f' 11= .int .i64 (codeOf (senP s tWait))∧Below W.heap.size W w')) (fr13 f) W:=by
 have HD:=below_drew (Below.refl W.heap.size W)
 simp only[opsOf,Tryz.f13,Option.bind_some,opsIn,Option.getD_some,Option.orElse,reduceIte,Nat.reduceEqDiff,Option.or_some,Option.none_or,Option.some_or,beq_iff_eq,Nat.reduceBEq,Bool.false_eq_true]
 have e0:fr13 f=fr13 (sl (fun i=>f (([66,67,68,69,70,71,72,73,65,74,75,10,999,11]:List Nat).getD i 0)) f [66,67,68,69,70,71,72,73,65,74,75,10,999,11]):=by kernel_rfl
 rw[e0]
 refine wp_region_any (by kernel_rfl) (region_two 12 (by decide) (fun x=>fr13 (sl x f [66,67,68,69,70,71,72,73,65,74,75,10,999,11])) par13_7 late13_7 (C13_7 s W.heap.size) (P13_7 s) 7 11 (E13 (senP s tWait)) (fun v w=>Is37 w v (senP s tWait)∧Below W.heap.size W w) W.drew (by kernel_rfl) (by kernel_rfl) (by kernel_rfl) (by kernel_rfl) rfl ?_ ?_ ?_ (fun _ _ _ _ h hB=>h.below hB) ?_ (by decide) ?_ ?_ ?_ _)
 ·intro i op x v ho
  match i,ho with
  |0,ho=>simp at ho;subst ho;show _=_;kernel_rfl
  |1,ho=>simp at ho;subst ho;show _=_;kernel_rfl
  |2,ho=>simp at ho;subst ho;show _=_;kernel_rfl
  |3,ho=>simp at ho;subst ho;show _=_;kernel_rfl
  |4,ho=>simp at ho;subst ho;show _=_;kernel_rfl
  |5,ho=>simp at ho;subst ho;show _=_;kernel_rfl
  |6,ho=>simp at ho;subst ho;show _=_;kernel_rfl
  |7,ho=>simp at ho;subst ho;show _=_;kernel_rfl
  |8,ho=>simp at ho;subst ho;show _=_;kernel_rfl
  |9,ho=>simp at ho;subst ho;show _=_;kernel_rfl
  |10,ho=>simp at ho;subst ho;show _=_;kernel_rfl
  |11,ho=>simp at ho;subst ho;show _=_;kernel_rfl
  |12,ho=>simp at ho;subst ho;show _=_;kernel_rfl
  |13,ho=>simp at ho;subst ho;show _=_;kernel_rfl
  |i+14,ho=>simp at ho
 ·intro i v u w h
  match i,h with
  |0,h=>trivial
  |1,h=>trivial
  |2,h=>trivial
  |3,h=>trivial
  |4,h=>trivial
  |5,h=>trivial
  |6,h=>trivial
  |7,h=>trivial
  |8,h=>exact h.2
  |9,h=>trivial
  |10,h=>exact h
  |11,h=>trivial
  |12,h=>trivial
  |13,h=>exact h
  |i+14,h=>trivial
 ·intro i v u w w' h hB
  match i,h with
  |0,h=>exact h
  |1,h=>exact IsT.below h hB
  |2,h=>exact IsT.below h hB
  |3,h=>exact IsL.below h hB
  |4,h=>exact IsT.below h hB
  |5,h=>exact IsL.below h hB
  |6,h=>exact IsT.below h hB
  |7,h=>exact Exists.imp (fun u hu=>⟨hu.1,hu.2.below hB⟩) h
  |8,h=>exact h
  |9,h=>exact h
  |10,h=>exact h
  |11,h=>exact Exists.imp (fun g hg=>⟨hg.1,hg.2.1,blk_below hg.2.2 hB⟩) h
  |12,h=>exact trivial
  |13,h=>exact h
  |i+14,h=>trivial
 ·intro i op x w J dn hi ho hB hdep hdn h
  have hBW:=below_step HD hB
  match i,hi,ho,hdep,h with
  |0,_,ho,hdep,h =>
   simp at ho
   subst ho
   exact op_loadS rfl rfl rfl hf1 (hS.below hBW) (h _ _ rfl (fun h=>absurd h (by decide)) (fun h=>absurd h (by decide)) (Below.refl _ _))
  |1,_,ho,hdep,h =>
   simp at ho
   subst ho
   exact op_leaf rfl rfl rfl fun u w' hu hB=>h u w' hu (fun h=>absurd h (by decide)) (fun h=>absurd h (by decide)) hB
  |2,_,ho,hdep,h =>
   simp at ho
   subst ho
   exact op_leaf rfl rfl rfl fun u w' hu hB=>h u w' hu (fun h=>absurd h (by decide)) (fun h=>absurd h (by decide)) hB
  |3,_,ho,hdep,h =>
   simp at ho
   subst ho
   have d2:=hdep ⟨2,.data⟩ (by simp) rfl
   exact op_row1 rfl rfl rfl rfl d2 fun u w' hu hB=>h u w' hu (fun h=>absurd h (by decide)) (fun h=>absurd h (by decide)) hB
  |4,_,ho,hdep,h =>
   simp at ho
   subst ho
   have d3:=hdep ⟨3,.data⟩ (by simp) rfl
   exact op_tree rfl rfl rfl rfl d3 fun u w' hu hB=>h u w' hu (fun h=>absurd h (by decide)) (fun h=>absurd h (by decide)) hB
  |5,_,ho,hdep,h =>
   simp at ho
   subst ho
   have d1:=hdep ⟨1,.data⟩ (by simp) rfl
   have d4:=hdep ⟨4,.data⟩ (by simp) rfl
   exact op_row2 rfl rfl rfl rfl rfl d1 d4 fun u w' hu hB=>h u w' hu (fun h=>absurd h (by decide)) (fun h=>absurd h (by decide)) hB
  |6,_,ho,hdep,h =>
   simp at ho
   subst ho
   have d5:=hdep ⟨5,.data⟩ (by simp) rfl
   exact op_tree rfl rfl rfl rfl d5 fun u w' hu hB=>h u w' hu (fun h=>absurd h (by decide)) (fun h=>absurd h (by decide)) hB
  |7,_,ho,hdep,h =>
   simp at ho
   subst ho
   have d0:=hdep ⟨0,.data⟩ (by simp) rfl
   have d6:=hdep ⟨6,.data⟩ (by simp) rfl
   exact op_sent (T:=T) (s:=s) (t:=tWait) rfl rfl rfl d0 rfl d6 (hT.below hBW) (hS.below hBW).2 sm_tWait nn_tWait fun u w' hu hB=>h _ w' ⟨u,rfl,hu.mono (fun _ _ _=>trivial)⟩ (fun _ hq=>E13.call hu (hdn 11 hq (by decide))) (fun h=>absurd h (by decide)) hB
  |8,_,ho,hdep,h =>
   simp at ho
   subst ho
   have d7:=hdep ⟨7,.data⟩ (by simp) rfl
   obtain ⟨u,e,_⟩:=d7
   exact op_mv rfl rfl rfl rfl (h _ _ ⟨rfl,⟨u,e⟩⟩ (fun h=>absurd h (by decide)) (fun h=>absurd h (by decide)) (Below.refl _ _))
  |9,_,ho,hdep,h =>
   simp at ho
   subst ho
   have d8:=hdep ⟨8,.data⟩ (by simp) rfl
   obtain ⟨_,u,e⟩:=d8
   exact op_ext rfl rfl rfl e rfl (h _ _ ⟨_,e⟩ (fun h=>absurd h (by decide)) (fun h=>absurd h (by decide)) (Below.refl _ _))
  |10,_,ho,hdep,h =>
   simp at ho
   subst ho
   have d8:=hdep ⟨8,.data⟩ (by simp) rfl
   obtain ⟨_,u,e⟩:=d8
   exact op_ext rfl rfl rfl e rfl (h _ _ rfl (fun h=>absurd h (by decide)) (fun h=>absurd h (by decide)) (Below.refl _ _))
  |11,_,ho,hdep,h =>
   simp at ho
   subst ho
   refine op_new37 rfl rfl rfl (h _ _ ⟨w.heap.size,rfl,hBW.size,heap_alloc_new _ _⟩ (fun h=>absurd h (by decide)) (fun _ hq=> ?_) (below_alloc (Below.refl _ _) _))
   obtain ⟨u,e,hu⟩:=hdn 7 hq (by decide)
   exact E13.new _ e hu
  |i+12,hi,ho,hdep,h=>exact absurd hi (by omega)
 ·intro op x w J ho hB hx hE h
  simp at ho
  subst ho
  have hBW:=below_step HD hB
  obtain ⟨g,e11,hg0,hz⟩:=hx 11 (by decide) rfl
  obtain ⟨cs,e9⟩:=hx 9 (by decide) rfl
  have e8:=(hx 8 (by decide) rfl).1
  have hF:=hE (x 9) g ⟨cs,e8.symm.trans e9⟩ e11
  exact op_store37 rfl rfl rfl rfl e11 rfl hz hF fun w' h37 hbel _=>h undef w' ⟨⟨g,e11,h37⟩,below_step HD (hB.trans (hbel W.drew.heap.size hg0))⟩
 ·intro i op x w J hi ho hdep h
  match i,hi,ho,hdep,h with
  |0,hi,ho,hdep,h=>exact absurd hi (by decide)
  |1,hi,ho,hdep,h=>exact absurd hi (by decide)
  |2,hi,ho,hdep,h=>exact absurd hi (by decide)
  |3,hi,ho,hdep,h=>exact absurd hi (by decide)
  |4,hi,ho,hdep,h=>exact absurd hi (by decide)
  |5,hi,ho,hdep,h=>exact absurd hi (by decide)
  |6,hi,ho,hdep,h=>exact absurd hi (by decide)
  |7,hi,ho,hdep,h=>exact absurd hi (by decide)
  |8,hi,ho,hdep,h=>exact absurd hi (by decide)
  |9,hi,ho,hdep,h=>exact absurd hi (by decide)
  |10,_,ho,hdep,h =>
   simp at ho
   subst ho
   obtain ⟨u,e⟩:=hdep ⟨8,.data⟩ (by simp) rfl (by decide)
   exact op_ext rfl rfl rfl e rfl (h _ rfl)
  |11,hi,ho,hdep,h=>exact absurd hi (by decide)
  |12,hi,ho,hdep,h=>exact absurd hi (by decide)
  |13,_,ho,hdep,h =>
   simp at ho
   subst ho
   have e:=hdep ⟨10,.data⟩ (by simp) rfl (by decide)
   exact op_asg rfl rfl rfl e (h _ rfl)
  |i+14,hi,ho,hdep,h=>simp at ho
 ·intro x w hx hD
  exact ⟨sl x f [66,67,68,69,70,71,72,73,65,74,75,10,999,11],rfl,rfl,rfl,rfl,rfl,rfl,rfl,rfl,rfl,hD.1,hx 13 (by decide) (by decide),hD.2⟩
def C13_8 (s:Sg) (B0:Nat):Nat→Value→Value→World→Prop
 |0,v,_,_=>v=sgV s
 |1,v,_,w=>IsT w ⟨⟨#[98,97,103]⟩,[],[]⟩ v
 |2,v,_,w=>IsL w [⟨⟨#[98,97,103]⟩,[],[]⟩] v
 |3,v,_,w=>IsT w ⟨⟨#[78,111,117,110]⟩,[],[⟨⟨#[98,97,103]⟩,[],[]⟩]⟩ v
 |4,v,_,w=>IsI w 30 v
 |5,v,_,w=>IsT w ⟨⟨#[99,111,115,116]⟩,[],[]⟩ v
 |6,v,_,w=>IsL w [⟨⟨#[99,111,115,116]⟩,[],[]⟩] v
 |7,v,_,w=>IsT w ⟨⟨#[67,111,115,116]⟩,[30],[⟨⟨#[99,111,115,116]⟩,[],[]⟩]⟩ v
 |8,v,_,w=>IsL w [⟨⟨#[78,111,117,110]⟩,[],[⟨⟨#[98,97,103]⟩,[],[]⟩]⟩,⟨⟨#[67,111,115,116]⟩,[30],[⟨⟨#[99,111,115,116]⟩,[],[]⟩]⟩] v
 |9,v,_,w=>IsT w ⟨⟨#[87,104,111]⟩,[],[⟨⟨#[78,111,117,110]⟩,[],[⟨⟨#[98,97,103]⟩,[],[]⟩]⟩,⟨⟨#[67,111,115,116]⟩,[30],[⟨⟨#[99,111,115,116]⟩,[],[]⟩]⟩]⟩ v
 |10,v,_,w=>∃u y,v= .tuple #[u,.string y,.int .i64 (codeOf (nouP s tBag))]∧IsF w (fun _=>True) (nouP s tBag) u∧((nouP s tBag).toOption.isSome=true→sortP s.ps 60 tBag=some y)
 |11,v,u,_=>v=u∧∃u y,v= .tuple #[u,.string y,.int .i64 (codeOf (nouP s tBag))]∧((nouP s tBag).toOption.isSome=true→sortP s.ps 60 tBag=some y)
 |12,v,u,_=>∃cs:List Value,u= .tuple (v::cs).toArray
 |13,v,_,_=>∃y,v= .string y∧((nouP s tBag).toOption.isSome=true→sortP s.ps 60 tBag=some y)
 |14,v,_,_=>v= .int .i64 (codeOf (nouP s tBag))
 |15,v,_,w=>∃g,v= .pointer (some ⟨g,0,none⟩)∧B0≤g∧w.heap[g]? =some zero37
 |17,v,_,_=>∃y,v= .string y∧((nouP s tBag).toOption.isSome=true→sortP s.ps 60 tBag=some y)
 |18,v,_,_=>v= .int .i64 (codeOf (nouP s tBag))
 |_,_,_,_=>True
def P13_8 (s:Sg):Nat→Value→Value→Prop
 |11,v,_=>∃u y,v= .tuple #[u,.string y,.int .i64 (codeOf (nouP s tBag))]∧((nouP s tBag).toOption.isSome=true→sortP s.ps 60 tBag=some y)
 |13,v,_=>∃y,v= .string y∧((nouP s tBag).toOption.isSome=true→sortP s.ps 60 tBag=some y)
 |14,v,_=>v= .int .i64 (codeOf (nouP s tBag))
 |17,v,_=>∃y,v= .string y∧((nouP s tBag).toOption.isSome=true→sortP s.ps 60 tBag=some y)
 |18,v,_=>v= .int .i64 (codeOf (nouP s tBag))
 |_,_,_=>True
def late13_8:Nat→Bool
 |13=>true
 |14=>true
 |_=>false
def par13_8:Nat→Nat
 |11=>10
 |12=>11
 |i=>i
set_option maxHeartbeats 4000000 in
set_option maxRecDepth 100000 in
theorem reg13_8 (T:Lib.PrintTabs) (s:Sg) (f:Nat→Value) (W:World) (g1 g2:Nat) (hf1:f 1= .pointer (some ⟨g1,0,none⟩)) (hf2:f 2= .pointer (some ⟨g2,0,none⟩)) (hS:AtS W g1 s) (hA2:AtT W g2 tMarta) (hT:Tabs T W) :
  Code.wp Tryz.prog (.region 8 (opsOf Tryz.f13 8) true) (OnN (fun a w' =>∃f',a=fr13 f' ∧f' 1=f 1∧f' 2=f 2∧f' 4=f 4∧f' 5=f 5∧f' 6=f 6∧f' 7=f 7∧f' 8=f 8∧f' 9=f 9∧f' 10=f 10∧f' 11=f 11∧Is37 w' (f' 12) (nouP s tBag)∧(∃y,f' 13= .string y∧((nouP s tBag).toOption.isSome=true→sortP s.ps 60 tBag=some y))∧f' 14= .int .i64 (codeOf (nouP s tBag))∧Below W.heap.size W w')) (fr13 f) W:=by
 have HD:=below_drew (Below.refl W.heap.size W)
 simp only[opsOf,Tryz.f13,Option.bind_some,opsIn,Option.getD_some,Option.orElse,reduceIte,Nat.reduceEqDiff,Option.or_some,Option.none_or,Option.some_or,beq_iff_eq,Nat.reduceBEq,Bool.false_eq_true]
 have e0:fr13 f=fr13 (sl (fun i=>f (([77,78,79,80,81,82,83,84,85,86,87,76,88,89,90,12,999,13,14]:List Nat).getD i 0)) f [77,78,79,80,81,82,83,84,85,86,87,76,88,89,90,12,999,13,14]):=by kernel_rfl
 rw[e0]
 refine wp_region_any (by kernel_rfl) (region_two 16 (by decide) (fun x=>fr13 (sl x f [77,78,79,80,81,82,83,84,85,86,87,76,88,89,90,12,999,13,14])) par13_8 late13_8 (C13_8 s W.heap.size) (P13_8 s) 10 15 (E13 (nouP s tBag)) (fun v w=>Is37 w v (nouP s tBag)∧Below W.heap.size W w) W.drew (by kernel_rfl) (by kernel_rfl) (by kernel_rfl) (by kernel_rfl) rfl ?_ ?_ ?_ (fun _ _ _ _ h hB=>h.below hB) ?_ (by decide) ?_ ?_ ?_ _)
 ·intro i op x v ho
  match i,ho with
  |0,ho=>simp at ho;subst ho;show _=_;kernel_rfl
  |1,ho=>simp at ho;subst ho;show _=_;kernel_rfl
  |2,ho=>simp at ho;subst ho;show _=_;kernel_rfl
  |3,ho=>simp at ho;subst ho;show _=_;kernel_rfl
  |4,ho=>simp at ho;subst ho;show _=_;kernel_rfl
  |5,ho=>simp at ho;subst ho;show _=_;kernel_rfl
  |6,ho=>simp at ho;subst ho;show _=_;kernel_rfl
  |7,ho=>simp at ho;subst ho;show _=_;kernel_rfl
  |8,ho=>simp at ho;subst ho;show _=_;kernel_rfl
  |9,ho=>simp at ho;subst ho;show _=_;kernel_rfl
  |10,ho=>simp at ho;subst ho;show _=_;kernel_rfl
  |11,ho=>simp at ho;subst ho;show _=_;kernel_rfl
  |12,ho=>simp at ho;subst ho;show _=_;kernel_rfl
  |13,ho=>simp at ho;subst ho;show _=_;kernel_rfl
  |14,ho=>simp at ho;subst ho;show _=_;kernel_rfl
  |15,ho=>simp at ho;subst ho;show _=_;kernel_rfl
  |16,ho=>simp at ho;subst ho;show _=_;kernel_rfl
  |17,ho=>simp at ho;subst ho;show _=_;kernel_rfl
  |18,ho=>simp at ho;subst ho;show _=_;kernel_rfl
  |i+19,ho=>simp at ho
 ·intro i v u w h
  match i,h with
  |0,h=>trivial
  |1,h=>trivial
  |2,h=>trivial
  |3,h=>trivial
  |4,h=>trivial
  |5,h=>trivial
  |6,h=>trivial
  |7,h=>trivial
  |8,h=>trivial
  |9,h=>trivial
  |10,h=>trivial
  |11,h=>exact h.2
  |12,h=>trivial
  |13,h=>exact h
  |14,h=>exact h
  |15,h=>trivial
  |16,h=>trivial
  |17,h=>exact h
  |18,h=>exact h
  |i+19,h=>trivial
 ·intro i v u w w' h hB
  match i,h with
  |0,h=>exact h
  |1,h=>exact IsT.below h hB
  |2,h=>exact IsL.below h hB
  |3,h=>exact IsT.below h hB
  |4,h=>exact IsI.below h hB
  |5,h=>exact IsT.below h hB
  |6,h=>exact IsL.below h hB
  |7,h=>exact IsT.below h hB
  |8,h=>exact IsL.below h hB
  |9,h=>exact IsT.below h hB
  |10,h=>exact Exists.imp (fun u hu=>Exists.imp (fun y hy=>⟨hy.1,hy.2.1.below hB,hy.2.2⟩) hu) h
  |11,h=>exact h
  |12,h=>exact h
  |13,h=>exact h
  |14,h=>exact h
  |15,h=>exact Exists.imp (fun g hg=>⟨hg.1,hg.2.1,blk_below hg.2.2 hB⟩) h
  |16,h=>exact trivial
  |17,h=>exact h
  |18,h=>exact h
  |i+19,h=>trivial
 ·intro i op x w J dn hi ho hB hdep hdn h
  have hBW:=below_step HD hB
  match i,hi,ho,hdep,h with
  |0,_,ho,hdep,h =>
   simp at ho
   subst ho
   exact op_loadS rfl rfl rfl hf1 (hS.below hBW) (h _ _ rfl (fun h=>absurd h (by decide)) (fun h=>absurd h (by decide)) (Below.refl _ _))
  |1,_,ho,hdep,h =>
   simp at ho
   subst ho
   exact op_leaf rfl rfl rfl fun u w' hu hB=>h u w' hu (fun h=>absurd h (by decide)) (fun h=>absurd h (by decide)) hB
  |2,_,ho,hdep,h =>
   simp at ho
   subst ho
   have d1:=hdep ⟨1,.data⟩ (by simp) rfl
   exact op_row1 rfl rfl rfl rfl d1 fun u w' hu hB=>h u w' hu (fun h=>absurd h (by decide)) (fun h=>absurd h (by decide)) hB
  |3,_,ho,hdep,h =>
   simp at ho
   subst ho
   have d2:=hdep ⟨2,.data⟩ (by simp) rfl
   exact op_tree rfl rfl rfl rfl d2 fun u w' hu hB=>h u w' hu (fun h=>absurd h (by decide)) (fun h=>absurd h (by decide)) hB
  |4,_,ho,hdep,h =>
   simp at ho
   subst ho
   exact op_rowI rfl rfl rfl fun u w' hu hB=>h u w' hu (fun h=>absurd h (by decide)) (fun h=>absurd h (by decide)) hB
  |5,_,ho,hdep,h =>
   simp at ho
   subst ho
   exact op_leaf rfl rfl rfl fun u w' hu hB=>h u w' hu (fun h=>absurd h (by decide)) (fun h=>absurd h (by decide)) hB
  |6,_,ho,hdep,h =>
   simp at ho
   subst ho
   have d5:=hdep ⟨5,.data⟩ (by simp) rfl
   exact op_row1 rfl rfl rfl rfl d5 fun u w' hu hB=>h u w' hu (fun h=>absurd h (by decide)) (fun h=>absurd h (by decide)) hB
  |7,_,ho,hdep,h =>
   simp at ho
   subst ho
   have d4:=hdep ⟨4,.data⟩ (by simp) rfl
   have d6:=hdep ⟨6,.data⟩ (by simp) rfl
   exact op_bt rfl rfl rfl rfl rfl d4 d6 fun u hu=>h u w hu (fun h=>absurd h (by decide)) (fun h=>absurd h (by decide)) (Below.refl _ _)
  |8,_,ho,hdep,h =>
   simp at ho
   subst ho
   have d3:=hdep ⟨3,.data⟩ (by simp) rfl
   have d7:=hdep ⟨7,.data⟩ (by simp) rfl
   exact op_row2 rfl rfl rfl rfl rfl d3 d7 fun u w' hu hB=>h u w' hu (fun h=>absurd h (by decide)) (fun h=>absurd h (by decide)) hB
  |9,_,ho,hdep,h =>
   simp at ho
   subst ho
   have d8:=hdep ⟨8,.data⟩ (by simp) rfl
   exact op_tree rfl rfl rfl rfl d8 fun u w' hu hB=>h u w' hu (fun h=>absurd h (by decide)) (fun h=>absurd h (by decide)) hB
  |10,_,ho,hdep,h =>
   simp at ho
   subst ho
   have d0:=hdep ⟨0,.data⟩ (by simp) rfl
   have d9:=hdep ⟨9,.data⟩ (by simp) rfl
   exact op_noun (s:=s) (t:=tBag) rfl rfl rfl d0 rfl d9 (hS.below hBW).2 sm_tBag nn_tBag fun u y w' hu hy hB=>h _ w' ⟨u,y,rfl,hu.mono (fun _ _ _=>trivial),hy⟩ (fun _ hq=>E13.call hu (hdn 15 hq (by decide))) (fun h=>absurd h (by decide)) hB
  |11,_,ho,hdep,h =>
   simp at ho
   subst ho
   have d10:=hdep ⟨10,.data⟩ (by simp) rfl
   obtain ⟨u,y,e,_,hy⟩:=d10
   exact op_mv rfl rfl rfl rfl (h _ _ ⟨rfl,⟨u,y,e,hy⟩⟩ (fun h=>absurd h (by decide)) (fun h=>absurd h (by decide)) (Below.refl _ _))
  |12,_,ho,hdep,h =>
   simp at ho
   subst ho
   have d11:=hdep ⟨11,.data⟩ (by simp) rfl
   obtain ⟨_,u,y,e,hy⟩:=d11
   exact op_ext rfl rfl rfl e rfl (h _ _ ⟨_,e⟩ (fun h=>absurd h (by decide)) (fun h=>absurd h (by decide)) (Below.refl _ _))
  |13,_,ho,hdep,h =>
   simp at ho
   subst ho
   have d11:=hdep ⟨11,.data⟩ (by simp) rfl
   obtain ⟨_,u,y,e,hy⟩:=d11
   exact op_ext rfl rfl rfl e rfl (h _ _ ⟨y,rfl,hy⟩ (fun h=>absurd h (by decide)) (fun h=>absurd h (by decide)) (Below.refl _ _))
  |14,_,ho,hdep,h =>
   simp at ho
   subst ho
   have d11:=hdep ⟨11,.data⟩ (by simp) rfl
   obtain ⟨_,u,y,e,hy⟩:=d11
   exact op_ext rfl rfl rfl e rfl (h _ _ rfl (fun h=>absurd h (by decide)) (fun h=>absurd h (by decide)) (Below.refl _ _))
  |15,_,ho,hdep,h =>
   simp at ho
   subst ho
   refine op_new37 rfl rfl rfl (h _ _ ⟨w.heap.size,rfl,hBW.size,heap_alloc_new _ _⟩ (fun h=>absurd h (by decide)) (fun _ hq=> ?_) (below_alloc (Below.refl _ _) _))
   obtain ⟨u,y,e,hu,_⟩:=hdn 10 hq (by decide)
   exact E13.new _ e hu
  |i+16,hi,ho,hdep,h=>exact absurd hi (by omega)
 ·intro op x w J ho hB hx hE h
  simp at ho
  subst ho
  have hBW:=below_step HD hB
  obtain ⟨g,e11,hg0,hz⟩:=hx 15 (by decide) rfl
  obtain ⟨cs,e9⟩:=hx 12 (by decide) rfl
  have e8:=(hx 11 (by decide) rfl).1
  have hF:=hE (x 12) g ⟨cs,e8.symm.trans e9⟩ e11
  exact op_store37 rfl rfl rfl rfl e11 rfl hz hF fun w' h37 hbel _=>h undef w' ⟨⟨g,e11,h37⟩,below_step HD (hB.trans (hbel W.drew.heap.size hg0))⟩
 ·intro i op x w J hi ho hdep h
  match i,hi,ho,hdep,h with
  |0,hi,ho,hdep,h=>exact absurd hi (by decide)
  |1,hi,ho,hdep,h=>exact absurd hi (by decide)
  |2,hi,ho,hdep,h=>exact absurd hi (by decide)
  |3,hi,ho,hdep,h=>exact absurd hi (by decide)
  |4,hi,ho,hdep,h=>exact absurd hi (by decide)
  |5,hi,ho,hdep,h=>exact absurd hi (by decide)
  |6,hi,ho,hdep,h=>exact absurd hi (by decide)
  |7,hi,ho,hdep,h=>exact absurd hi (by decide)
  |8,hi,ho,hdep,h=>exact absurd hi (by decide)
  |9,hi,ho,hdep,h=>exact absurd hi (by decide)
  |10,hi,ho,hdep,h=>exact absurd hi (by decide)
  |11,hi,ho,hdep,h=>exact absurd hi (by decide)
  |12,hi,ho,hdep,h=>exact absurd hi (by decide)
  |13,_,ho,hdep,h =>
   simp at ho
   subst ho
   obtain ⟨u,y,e,hy⟩:=hdep ⟨11,.data⟩ (by simp) rfl (by decide)
   exact op_ext rfl rfl rfl e rfl (h _ ⟨y,rfl,hy⟩)
  |14,_,ho,hdep,h =>
   simp at ho
   subst ho
   obtain ⟨u,y,e,hy⟩:=hdep ⟨11,.data⟩ (by simp) rfl (by decide)
   exact op_ext rfl rfl rfl e rfl (h _ rfl)
  |15,hi,ho,hdep,h=>exact absurd hi (by decide)
  |16,hi,ho,hdep,h=>exact absurd hi (by decide)
  |17,_,ho,hdep,h =>
   simp at ho
   subst ho
   obtain ⟨y,e,hy⟩:=hdep ⟨13,.data⟩ (by simp) rfl (by decide)
   exact op_asg rfl rfl rfl e (h _ ⟨y,rfl,hy⟩)
  |18,_,ho,hdep,h =>
   simp at ho
   subst ho
   have e:=hdep ⟨14,.data⟩ (by simp) rfl (by decide)
   exact op_asg rfl rfl rfl e (h _ rfl)
  |i+19,hi,ho,hdep,h=>simp at ho
 ·intro x w hx hD
  exact ⟨sl x f [77,78,79,80,81,82,83,84,85,86,87,76,88,89,90,12,999,13,14],rfl,rfl,rfl,rfl,rfl,rfl,rfl,rfl,rfl,rfl,rfl,hD.1,hx 17 (by decide) (by decide),hx 18 (by decide) (by decide),hD.2⟩
end
def aw1T:ByteArray:=⟨#[65,76,76,32,112,101,114,115,111,110,40,73,77,80,76,73,69,83,40,112,97,115,115,101,110,103,101,114,40,35,48,41,44,32,83,79,77,69,32,116,104,105,110,103,40,65,78,68,40,98,97,103,40,35,48,41,44,32,99,97,114,114,121,40,35,49,44,32,35,48,41,41,41,41,41]⟩
def aw2T:ByteArray:=⟨#[79,66,76,73,71,69,68,40,78,79,84,40,115,109,111,107,101,40,109,97,114,116,97,41,41,41]⟩
def aw3T:ByteArray:=⟨#[65,78,68,40,98,97,103,40,35,48,41,44,32,99,111,115,116,40,35,48,44,32,51,48,41,41]⟩
def chkT (o:Except Int S70) (t:ByteArray):Bool:=match o with
 |.ok m=>decide (wrP m.f0=t) && wrOk m.f0
 |.error _=>false
theorem chk_ok {o:Except Int S70} {t:ByteArray} (h:chkT o t=true):∃m,o= .ok m∧wrP m.f0=t∧wrOk m.f0=true:=by
 cases o with
 |error c=>cases h
 |ok m =>
  unfold chkT at h
  simp only[Bool.and_eq_true,decide_eq_true_eq]at h
  exact ⟨m,rfl,h.1,h.2⟩
theorem aw1 {s:Sg} (h:MSig s):∃m,senP s tCarry= .ok m∧wrP m.f0=aw1T∧wrOk m.f0=true:=by
 obtain ⟨A0,c0,ss,A1,c1,cs,A2,c2,ps⟩:=s
 obtain ⟨rfl,rfl,rfl⟩:=h
 exact chk_ok (by kernel_rfl)
theorem aw2 {s:Sg} (h:MSig s):∃m,senP s tSmoke= .ok m∧wrP m.f0=aw2T∧wrOk m.f0=true:=by
 obtain ⟨A0,c0,ss,A1,c1,cs,A2,c2,ps⟩:=s
 obtain ⟨rfl,rfl,rfl⟩:=h
 exact chk_ok (by kernel_rfl)
theorem aw3 {s:Sg} (h:MSig s):senP s tCapt= .error 6:=by
 obtain ⟨A0,c0,ss,A1,c1,cs,A2,c2,ps⟩:=s
 obtain ⟨rfl,rfl,rfl⟩:=h
 kernel_rfl
theorem aw4 {s:Sg} (h:MSig s):senP s tWait= .error 10:=by
 obtain ⟨A0,c0,ss,A1,c1,cs,A2,c2,ps⟩:=s
 obtain ⟨rfl,rfl,rfl⟩:=h
 kernel_rfl
theorem aw5 {s:Sg} (h:MSig s):∃m,nouP s tBag= .ok m∧wrP m.f0=aw3T∧wrOk m.f0=true:=by
 obtain ⟨A0,c0,ss,A1,c1,cs,A2,c2,ps⟩:=s
 obtain ⟨rfl,rfl,rfl⟩:=h
 exact chk_ok (by kernel_rfl)
theorem aw6 {s:Sg} (h:MSig s):sortP s.ps 60 tBag=some ⟨#[116,104,105,110,103]⟩:=by
 obtain ⟨A0,c0,ss,A1,c1,cs,A2,c2,ps⟩:=s
 obtain ⟨rfl,rfl,rfl⟩:=h
 kernel_rfl
theorem body13:Tryz.f13.body=some (.seq (.region 0 (opsOf Tryz.f13 0) false) (.seq (.region 1 (opsOf Tryz.f13 1) false) (.seq (.region 2 (opsOf Tryz.f13 2) false) (.seq (.region 3 (opsOf Tryz.f13 3) false) (.seq (.region 4 (opsOf Tryz.f13 4) false) (.seq (.region 5 (opsOf Tryz.f13 5) true) (.seq (.region 6 (opsOf Tryz.f13 6) true) (.seq (.region 7 (opsOf Tryz.f13 7) true) (.seq (.region 8 (opsOf Tryz.f13 8) true) (.seq (.seq (.region 9 (opsOf Tryz.f13 9) false) (.cond (.tmp 112) (.seq (.region 10 (opsOf Tryz.f13 10) false) .ret) .skip)) (.seq (.region 11 (opsOf Tryz.f13 11) false) .ret))))))))))):=by kernel_rfl
set_option maxHeartbeats 4000000 in
set_option maxRecDepth 100000 in
theorem reg13_0 (f:Nat→Value) (W:World):Code.wp Tryz.prog (.region 0 (opsOf Tryz.f13 0) false) (OnN (fun a w' =>a=fr13 (upd f 0 (.bool false))∧w' =W)) (fr13 f) W:=by
 simp only[opsOf,Tryz.f13,Option.bind_some,opsIn,Option.getD_some,Option.orElse,reduceIte,Nat.reduceEqDiff,Option.or_some,Option.none_or,Option.some_or,beq_iff_eq,Nat.reduceBEq,Bool.false_eq_true]
 refine wp_region_list ?_
 refine list_op (i:=0) rfl (op_value rfl (wanted_none rfl) (w' :=W) (v:= .bool false) (by go_simp) ?_)
 exact ⟨rfl,rfl⟩
theorem at37_cells {w:World} {p:Value} {m:S70} (h:Is37 w p (.ok m)):∃g A2 c2 A5 c5,p= .pointer (some ⟨g,0,none⟩)∧w.heap[g]? =some (.cells #[.int .i64 m.f0.f0,.string m.f0.f1,.slice A2 m.f0.f2.length c2,.int .i64 m.f0.f3,.int .i64 m.f0.f4,.slice A5 m.f0.f5.length c5] 37 (0,0))∧FmC w m.f0 A2 c2 A5 c5:=by
 obtain ⟨g,e,A2,c2,A5,c5,h1,h2⟩:=h
 exact ⟨g,A2,c2,A5,c5,e,h1,h2⟩
set_option maxHeartbeats 8000000 in
set_option maxRecDepth 100000 in
theorem reg13_end (T:Lib.PrintTabs) (f:Nat→Value) (w0 W:World) (hB0:Below w0.heap.size w0 W) (m1 m2 m3:S70) (h4:Is37 W (f 4) (.ok m1)) (h6:Is37 W (f 6) (.ok m2)) (h12:Is37 W (f 12) (.ok m3)) (t1:wrP m1.f0=aw1T) (k1:wrOk m1.f0=true) (t2:wrP m2.f0=aw2T) (k2:wrOk m2.f0=true) (t3:wrP m3.f0=aw3T) (k3:wrOk m3.f0=true)
  (h5:f 5= .int .i64 0) (h7:f 7= .int .i64 0) (h9:f 9= .int .i64 6) (h11:f 11= .int .i64 10) (h14:f 14= .int .i64 0) (h13:f 13= .string ⟨#[116,104,105,110,103]⟩) (hT:Tabs T W) :
  Code.wp Tryz.prog (.seq (.seq (.region 9 (opsOf Tryz.f13 9) false) (.cond (.tmp 112) (.seq (.region 10 (opsOf Tryz.f13 10) false) .ret) .skip)) (.seq (.region 11 (opsOf Tryz.f13 11) false) .ret)) (bodyPost Tryz.prog Tryz.f13 fun e w' =>e= .returned (.bool true)∧Below w0.heap.size w0 w') (fr13 f) W:=by
 obtain ⟨g1,A2,c2,A5,c5,p4,b1,v1⟩:=at37_cells h4
 obtain ⟨g2,B2,d2,B5,d5,p6,b2,v2⟩:=at37_cells h6
 obtain ⟨g3,D2,e2,D5,e5,p12,b3,v3⟩:=at37_cells h12
 have C1:=Aside0.mk (fun (V:World) (hV:Below W.heap.size W V)=>text_calls T m1.f0 V A2 c2 A5 c5 (v1.below hV) (hT.below hV) k1 (by rw[t1];decide +kernel))
 have C2:=Aside0.mk (fun (V:World) (hV:Below W.heap.size W V)=>text_calls T m2.f0 V B2 d2 B5 d5 (v2.below hV) (hT.below hV) k2 (by rw[t2];decide +kernel))
 have C3:=Aside0.mk (fun (V:World) (hV:Below W.heap.size W V)=>text_calls T m3.f0 V D2 e2 D5 e5 (v3.below hV) (hT.below hV) k3 (by rw[t3];decide +kernel))
 rw[t1]at C1
 rw[t2]at C2
 rw[t3]at C3
 clear t1 t2 t3 k1 k2 k3 hT v1 v2 v3 h4 h6 h12
 have X1:=Aside0.mk b1
 have X2:=Aside0.mk b2
 have X3:=Aside0.mk b3
 clear b1 b2 b3
 have x0:=blk_cell X1.out 0
 have x1:=blk_cell X1.out 1
 have x2:=blk_cell X1.out 2
 have x3:=blk_cell X1.out 3
 have x4:=blk_cell X1.out 4
 have x5:=blk_cell X1.out 5
 simp at x0 x1 x2 x3 x4 x5
 simp only[opsOf,Tryz.f13,Option.bind_some,opsIn,Option.getD_some,Option.orElse,reduceIte,Nat.reduceEqDiff,Option.or_some,Option.none_or,Option.some_or,beq_iff_eq,Nat.reduceBEq,Bool.false_eq_true]
 unfold fr13
 unfold aw1T at C1
 unfold aw2T at C2
 unfold aw3T at C3
 go_wp2_with (first
  |(go_at_call 39;refine (C1.out W (Below.refl _ _)).mono ?_;rintro e w1 ⟨rfl,hB⟩;have HB1:=Aside0.mk hB;clear hB;clear C1 x0 x1 x2 x3 x4 x5;have y0:=blk_cell (blk_below X2.out HB1.out) 0;have y1:=blk_cell (blk_below X2.out HB1.out) 1;have y2:=blk_cell (blk_below X2.out HB1.out) 2;have y3:=blk_cell (blk_below X2.out HB1.out) 3;have y4:=blk_cell (blk_below X2.out HB1.out) 4;have y5:=blk_cell (blk_below X2.out HB1.out) 5;simp at y0 y1 y2 y3 y4 y5)
  |(go_at_call 39;refine (C2.out w1 HB1.out).mono ?_;rintro e w2 ⟨rfl,hB⟩;have HB2:=Aside0.mk (below_step HB1.out hB);clear hB;clear C2 y0 y1 y2 y3 y4 y5;have y0:=blk_cell (blk_below X3.out HB2.out) 0;have y1:=blk_cell (blk_below X3.out HB2.out) 1;have y2:=blk_cell (blk_below X3.out HB2.out) 2;have y3:=blk_cell (blk_below X3.out HB2.out) 3;have y4:=blk_cell (blk_below X3.out HB2.out) 4;have y5:=blk_cell (blk_below X3.out HB2.out) 5;simp at y0 y1 y2 y3 y4 y5)
  |(go_at_call 39;refine (C3.out w2 HB2.out).mono ?_;rintro e w3 ⟨rfl,hB⟩;have HB3:=Aside0.mk (below_step HB2.out hB);clear hB))
 go_ret
 exact ⟨rfl,below_step hB0 HB3.out⟩
set_option maxHeartbeats 4000000 in
set_option maxRecDepth 100000 in
/-- awake: the examples hold. -/
theorem awake_calls (T:Lib.PrintTabs) (w:World) (hT:Tabs T w):Calls Tryz.prog 13 #[] w fun e w' =>e= .returned (.bool true)∧Below w.heap.size w w' :=by
 refine calls_of_wp Tryz.func13 body13 ?_
 have e0:({tmps:= #[]++Array.replicate (Tryz.f13.ntmps-0) undef,defers:=[]}:Act)=fr13 (fun _=>undef):=by kernel_rfl
 show Code.wp _ _ _ ({tmps:= #[]++Array.replicate (Tryz.f13.ntmps-0) undef,defers:=[]}:Act) w
 rw[e0]
 refine wp_seq (wp_onN _ (reg13_0 _ w) ?_)
 rintro a w0 ⟨rfl,rfl⟩
 refine wp_seq (wp_onN _ (reg13_1 _ w0) ?_)
 rintro a w1 ⟨f1,g1,s,rfl,a1,S1,hs,B1⟩
 refine wp_seq (wp_onN _ (reg13_2 f1 w1) ?_)
 rintro a w2 ⟨f2,g2,rfl,b1,b2,M2,B2⟩
 refine wp_seq (wp_onN _ (reg13_3 f2 w2) ?_)
 rintro a w3 ⟨f3,g3,rfl,c1,c2,c3,M3,B3⟩
 have T3:=hT.below (below_step (below_step B1 B2) B3)
 have S3:=(S1.below B2).below B3
 have q1:f3 1=_:=c1.trans (b1.trans a1)
 have q2:f3 2=_:=c2.trans b2
 refine wp_seq (wp_onN _ (reg13_4 T s f3 w3 g1 g3 q1 c3 S3 M3 T3) ?_)
 rintro a w4 ⟨f4,rfl,d1,d2,d4,d5,B4⟩
 refine wp_seq (wp_onN _ (reg13_5 T s f4 w4 g1 g2 (d1.trans q1) (d2.trans q2) (S3.below B4) ((M2.below B3).below B4) (T3.below B4)) ?_)
 rintro a w5 ⟨f5,rfl,i1,i2,i4,i5,i6,i7,B5⟩
 have B45:=below_step B4 B5
 refine wp_seq (wp_onN _ (reg13_6 T s f5 w5 g1 g2 (i1.trans (d1.trans q1)) (i2.trans (d2.trans q2)) (S3.below B45) ((M2.below B3).below B45) (T3.below B45)) ?_)
 rintro a w6 ⟨f6,rfl,j1,j2,j4,j5,j6,j7,j8,j9,B6⟩
 have B46:=below_step B45 B6
 refine wp_seq (wp_onN _ (reg13_7 T s f6 w6 g1 g2 (j1.trans (i1.trans (d1.trans q1))) (j2.trans (i2.trans (d2.trans q2))) (S3.below B46) ((M2.below B3).below B46) (T3.below B46)) ?_)
 rintro a w7 ⟨f7,rfl,k1,k2,k4,k5,k6,k7,k8,k9,k10,k11,B7⟩
 have B47:=below_step B46 B7
 refine wp_seq (wp_onN _ (reg13_8 T s f7 w7 g1 g2 (k1.trans (j1.trans (i1.trans (d1.trans q1)))) (k2.trans (j2.trans (i2.trans (d2.trans q2)))) (S3.below B47) ((M2.below B3).below B47) (T3.below B47)) ?_)
 rintro a w8 ⟨f8,rfl,l1,l2,l4,l5,l6,l7,l8,l9,l10,l11,l12,⟨y,l13,hy⟩,l14,B8⟩
 obtain ⟨m1,e1,t1,o1⟩:=aw1 hs
 obtain ⟨m2,e2,t2,o2⟩:=aw2 hs
 obtain ⟨m3,e3,t3,o3⟩:=aw5 hs
 have e4:=aw3 hs
 have e5:=aw4 hs
 have e6:=aw6 hs
 rw[e1]at d4 d5
 rw[e2]at i6 i7
 rw[e4]at j9
 rw[e5]at k11
 rw[e3]at l12 l14 hy
 rw[e6]at hy
 obtain rfl:=Option.some.inj (hy rfl)
 have B58:=below_step (below_step (below_step B5 B6) B7) B8
 have r4:f8 4=f4 4:=l4.trans (k4.trans (j4.trans i4))
 have r6:f8 6=f5 6:=l6.trans (k6.trans j6)
 exact reg13_end T f8 w0 w8 (below_step (below_step (below_step B1 B2) B3) (below_step B47 B8)) m1 m2 m3 (r4▸d4.below B58) (r6▸i6.below (below_step (below_step B6 B7) B8)) l12 t1 o1 t2 o2 t3 o3 (l5.trans (k5.trans (j5.trans (i5.trans d5)))) (l7.trans (k7.trans (j7.trans i7))) (l9.trans (k9.trans j9)) (l11.trans k11) l14 l13 (T3.below (below_step B47 B8))
section
attribute [local go_sem] Oper.semAt_some
theorem wp_guard {ops:Array Oper} {Q:Exit→Act→World→Prop} {i:Nat} {o:Oper} {J:Act→World→Prop} {a:Act} {w:World} (hi:ops[i]? =some o) (hw:Region.wanted o (yielded ops a.tmps)=true) (h:∀ops' :Array Oper,ops'[i]? =some {o with guard:=none}→wpOp Tryz.prog ops' Q i J a w):wpOp Tryz.prog ops Q i J a w:=by
 have hlt:=(Array.getElem?_eq_some_iff.1 hi).1
 have h1:=h (ops.setIfInBounds i {o with guard:=none}) (by rw[Array.getElem?_setIfInBounds_self_of_lt hlt])
 unfold wpOp at h1 ⊢
 rw[Array.getElem?_setIfInBounds_self_of_lt hlt]at h1
 rw[hi]
 simp only[wanted_none,if_true]at h1
 simp only[hw,if_true]
 exact h1
section
variable {ops:Array Oper} {Q:Exit→Act→World→Prop} {R:Act→World→Prop} {RP:World→Prop} {i:Nat} {o:Oper} {J:Act→World→Prop} {a:Act} {w:World}
theorem op_boolC {f:FuncId} {xs:Array Operand} {vs:Array Value} {ts:Array TypeId} {P:Bool→Prop} (hi:ops[i]? =some o) (hg:o.guard=none) (hen:Enters Tryz.prog f) (ho:o.op= .call {callee:= .value (.func f),args:=xs,argTypes:=ts}) (hx:xs.map a.eval=vs) (hc:Calls Tryz.prog f vs w fun e w' =>∃b,e= .returned (.bool b)∧P b∧Below w.heap.size w w') (h:∀b w',P b→Below w.heap.size w w' →J (a.put o.dst (.bool b)) w'):wpOp Tryz.prog ops Q i J a w:=by
 refine op_call hi (wanted_none hg) ?_ (hc.mono ?_)
 ·have he:=hen vs w
  subst hx
  unfold execOp
  rw[ho]
  simp[go_sem,resolve,Deferred.ofValue,invoke,he]
 ·rintro e w' ⟨b,rfl,hp,hb⟩
  exact ⟨_,rfl,h b w' hp hb⟩
theorem op_pickT {k k2:Tmp} {b c:Bool} (hi:ops[i]? =some o) (hg:o.guard=none) (ho:o.op= .pick (.tmp k) (.const (.bool true)) (.tmp k2)) (ha:a.tmps[k]?.getD undef= .bool b) (ha2:b=false→a.tmps[k2]?.getD undef= .bool c) (h:J (a.put o.dst (.bool (b || c))) w):wpOp Tryz.prog ops Q i J a w:=by
 refine op_value hi (wanted_none hg) (w' :=w) ?_ h
 unfold execOp
 rw[ho]
 cases b with
 |true=>go_simp
 |false =>
  have ha3:=ha2 rfl
  go_simp
end
theorem yes_ {w:World} {f:FuncId} {vs:Array Value} {c:Bool} (h:Calls Tryz.prog f vs w fun e w' =>e= .returned (.bool c)∧Below w.heap.size w w'):Calls Tryz.prog f vs w fun e w' =>∃b,e= .returned (.bool b)∧b=c∧Below w.heap.size w w' :=h.mono fun e w' h=>⟨c,h.1,rfl,h.2⟩
theorem bodyPost_yes {F:Func} {a:Act} {w w' :World} {k:Nat} (hr:F.results= #[.tmp k]) (ha:a.tmps.getD k undef= .bool true) (hd:a.defers=[]) (hB:Below w.heap.size w w'):bodyPost Tryz.prog F (fun e w' =>e= .returned (.bool true)∧Below w.heap.size w w') .ret a w' :=by
 refine bodyPost_ret (v:= .bool true) ?_ hd ⟨rfl,hB⟩
 rw[←ha]
 exact results_tmp hr _ _ _
end
section
mutual
/-- All that a tree holds, letters too. -/
def big:S30→Nat
 |⟨f,vs,ks⟩=>f.size+vs.length+bigL ks+1
def bigL:List S30→Nat
 | []=>0
 |t::r=>big t+bigL r
end
theorem big_eq (t:S30):big t=t.f0.size+t.f1.length+bigL t.f2+1:=by cases t;simp[big]
mutual
theorem nodes_big:∀t:S30,nodes t≤big t
 |⟨_,_,ks⟩=>by have:=nodesL_big ks;simp only[nodes,big];omega
theorem nodesL_big:∀l:List S30,nodesL l≤bigL l
 | []=>Nat.le_refl _
 |t::r=>by have:=nodes_big t;have:=nodesL_big r;simp only[nodesL,bigL];omega
end
theorem len_bigL:∀l:List S30,l.length≤bigL l
 | []=>Nat.le_refl _
 |t::r=>by have:=big_eq t;have:=len_bigL r;simp only[List.length_cons,bigL];omega
mutual
theorem sm_big:∀t:S30,big t≤2000000→Sm t
 |⟨f,vs,ks⟩,h=>by
  rw[big]at h
  rw[Sm]
  have:=len_bigL ks
  exact ⟨by omega,by omega,by omega,smL_big ks (by omega)⟩
theorem smL_big:∀l:List S30,bigL l≤2000000→SmL l
 | [],_=>by rw[SmL];trivial
 |t::r,h=>by
  rw[bigL]at h
  rw[SmL]
  exact ⟨sm_big t (by omega),smL_big r (by omega)⟩
end
section
variable {H:Type} {enc:TypeId×Value→H} {w:World} {base:Nat} {spare:Nat→Bool} {held:Bool}
theorem opened {α:Type} [Inhabited α] {kd:Kd α} {Q:α→DataW H→Prop} {t e:TypeId} (ht:Tryz.prog.underlying t=some (.slice e)) (hc:Tryz.prog.cellsOf e=kd.sz) {fuel:Nat} {cs:List Value} {x:DataW H×List MemPlace}
  (h:DataW.trod enc Tryz.prog w base spare held fuel t cs=some x) (hel:∀n cs' y,n<fuel→DataW.trod enc Tryz.prog w base spare held n e cs' =some y→∃p,kd.K w p cs' ∧Q p y.1) :
  ∃A xs c ds,cs=[.slice A xs.length c]∧xs.length≤c∧kd.C w A xs.length xs∧((∃sp,x.1= .slice ds sp)∨x.1= .nil∧ds=[])∧ds.length=xs.length∧∀(i:Nat) p d,xs[i]? =some p→ds[i]? =some d→Q p d:=by
 rcases DataW.trod_slice ht h with ⟨rfl,rfl⟩ | ⟨a,len,cap,elems,rest,n,rfl,rfl,rfl,hb,hl,hm,hlen,hel',_,_⟩
 ·exact ⟨none,[],0,[],rfl,Nat.le_refl _,⟨rfl,Nat.zero_le _,fun h=>by simp at h⟩,.inr ⟨rfl,rfl⟩,rfl,fun i p d hp=>by simp at hp⟩
 ·obtain ⟨V,hV⟩:=Go.Deep.choose_lt (α:=α) (n:=len) (p:=fun i p=>∃cs' y,w.cells? base (a.add (i*kd.sz)) kd.sz=some cs' ∧elems[i]? =some y∧kd.K w p cs' ∧Q p y.1) (fun i hi=>by
   have he:=hel' i hi
   rw[List.getElem?_eq_getElem (by omega)]at he
   obtain ⟨cs',h1,h2⟩:=Option.bind_eq_some_iff.1 he
   obtain ⟨p,hK,hQ⟩:=hel n cs' _ (Nat.lt_succ_self _) h2
   rw[hc]at h1
   exact ⟨p,cs',_,h1,List.getElem?_eq_getElem (by omega),hK,hQ⟩)
  refine ⟨some a,(List.range len).map V,cap,elems.map (·.1),by simp,by simpa using hl,⟨rfl,?_,fun hp=>⟨a,rfl,fun j p hj=> ?_⟩⟩,.inl ⟨_,rfl⟩,by simp[hlen],fun i p d hp hd=> ?_⟩
  ·simp only[List.length_map,List.length_range]
   unfold maxLen at hm
   omega
  ·have hlt:j<len:=by
    have:=(List.getElem?_eq_some_iff.1 hj).1
    simpa using this
   have hpj:p=V j:=by
    rw[List.getElem?_map,List.getElem?_range hlt]at hj
    exact (Option.some.inj hj).symm
   subst hpj
   obtain ⟨cs',y,h1,_,hK,_⟩:=hV j hlt
   obtain ⟨_,hlen',hcell⟩:=World.cells?_some h1
   refine ⟨cs',hlen',hK,fun i u hu=> ?_⟩
   have hi:i<kd.sz:=by rw[←hlen'];exact (List.getElem?_eq_some_iff.1 hu).1
   have:=hcell i hi
   rw[hu,Addr.add_add]at this
   exact this
  ·have hlt:i<len:=by
    have:=(List.getElem?_eq_some_iff.1 hp).1
    simpa using this
   obtain ⟨cs',y,_,h2,_,hQ⟩:=hV i hlt
   have hpj:p=V i:=by
    rw[List.getElem?_map,List.getElem?_range hlt]at hp
    exact (Option.some.inj hp).symm
   subst hpj
   rw[List.getElem?_map,h2]at hd
   rw[←Option.some.inj hd]
   exact hQ
theorem bulk_one (d:DataW H):1≤Rows.uptoBulk d:=by
 cases d with
 |lit l=>cases l<;>simp[Rows.uptoBulk]
 |nil=>simp[Rows.uptoBulk]
 |ptr d=>simp[Rows.uptoBulk]
 |slice a b=>simp[Rows.uptoBulk]
 |agg a=>simp[Rows.uptoBulk]
 |iface a d=>simp[Rows.uptoBulk]
 |map es=>simp[Rows.uptoBulk]
 |held h=>simp[Rows.uptoBulk]
def sumOf {α:Type} (f:α→Nat):List α→Nat
 | []=>0
 |x::r=>f x+sumOf f r
theorem bulk_all {α:Type} (f:α→Nat):∀(xs:List α) (ds:List (DataW H)),ds.length=xs.length→(∀(i:Nat) p d,xs[i]? =some p→ds[i]? =some d→f p≤Rows.uptoBulk d)→sumOf f xs≤Rows.uptoBulkAll ds
 | [],ds,_,_=>Nat.zero_le _
 |x::r,[],hl,_=>by simp at hl
 |x::r,d::ds,hl,h=>by
  have h0:=h 0 x d rfl rfl
  have h1:=bulk_all f r ds (by simpa using hl) (fun i p d' hp hd=>h (i+1) p d' (by simpa using hp) (by simpa using hd))
  show f x+sumOf f r≤Rows.uptoBulkAll (d::ds)
  simp only[Rows.uptoBulkAll]
  omega
theorem bulk_slice {α:Type} (f:α→Nat) {xs:List α} {ds:List (DataW H)} {d:DataW H} (hd:(∃sp,d= .slice ds sp)∨d= .nil∧ds=[]) (hl:ds.length=xs.length) (h:∀(i:Nat) p d,xs[i]? =some p→ds[i]? =some d→f p≤Rows.uptoBulk d):sumOf f xs+1≤Rows.uptoBulk d:=by
 have h1:=bulk_all f xs ds hl h
 rcases hd with ⟨sp,rfl⟩ | ⟨rfl,rfl⟩
 ·simp only[Rows.uptoBulk]
  omega
 ·simp only[Rows.uptoBulk]
  simp only[Rows.uptoBulkAll]at h1
  omega
theorem sum_len {α:Type} (l:List α):sumOf (fun _=>1) l=l.length:=by
 induction l with
 |nil=>rfl
 |cons x r ih=>simp only[sumOf,ih,List.length_cons];omega
theorem sum_bigL (l:List S30):sumOf big l=bigL l:=by
 induction l with
 |nil=>rfl
 |cons x r ih=>simp only[sumOf,ih,bigL]
theorem open_intsC {fuel:Nat} {cs:List Value} {x:DataW H×List MemPlace} (h:DataW.trod enc Tryz.prog w base spare held fuel 27 cs=some x) :
  ∃A xs c,cs=[.slice A xs.length c]∧xs.length≤c∧(Kd.int .i64).C w A xs.length xs∧xs.length+1≤Rows.uptoBulk x.1:=by
 obtain ⟨A,xs,c,ds,h1,h2,h3,h4,h5,h6⟩:=opened (kd:=Kd.int .i64) (Q:=fun (s:Int) d=>1≤Rows.uptoBulk d) Tryz.underlying27 (by kernel_rfl) h (fun n cs' y _ hy=>by
  obtain ⟨s,rfl,rfl,hs⟩:=DataW.trod_int Tryz.underlying3 hy
  exact ⟨s,rfl,bulk_one _⟩)
 have:=bulk_slice (fun _=>1) h4 h5 h6
 rw[sum_len]at this
 exact ⟨A,xs,c,h1,h2,h3,this⟩
instance inh30:Inhabited S30:=⟨z30⟩
theorem three {l:List Value} (h:l.length=3):∃a b c,l=[a,b,c]:=by
 match l,h with
 | [a,b,c],_=>exact ⟨a,b,c,rfl⟩
set_option maxRecDepth 100000 in
theorem open_treesC (fuel:Nat):(∀cs (x:DataW H×List MemPlace),DataW.trod enc Tryz.prog w base spare held fuel 30 cs=some x→∃p A1 c1 A2 c2,cs=[.string p.f0,.slice A1 p.f1.length c1,.slice A2 p.f2.length c2]∧TreeV w p A1 c1 A2 c2∧big p≤Rows.uptoBulk x.1) ∧
  ∀cs (x:DataW H×List MemPlace),DataW.trod enc Tryz.prog w base spare held fuel 28 cs=some x→∃A xs c,cs=[.slice A xs.length c]∧xs.length≤c∧k30.C w A xs.length xs∧bigL xs+1≤Rows.uptoBulk x.1:=by
 induction fuel using Nat.strongRecOn with
 |_ fuel ih =>
  have h28:∀cs (x:DataW H×List MemPlace),DataW.trod enc Tryz.prog w base spare held fuel 28 cs=some x→∃A xs c,cs=[.slice A xs.length c]∧xs.length≤c∧k30.C w A xs.length xs∧bigL xs+1≤Rows.uptoBulk x.1:=by
   intro cs x h
   obtain ⟨A,xs,c,ds,h1,h2,h3,h4,h5,h6⟩:=opened (kd:=k30) (Q:=fun p d=>big p≤Rows.uptoBulk d) Tryz.underlying28 (by kernel_rfl) h (fun n cs' y hn hy=>by
    obtain ⟨p,A1,c1,A2,c2,rfl,tv,hb⟩:=(ih n hn).1 cs' y hy
    exact ⟨p,k30_mk w p tv.l1 tv.v tv.l2 tv.k,hb⟩)
   have:=bulk_slice big h4 h5 h6
   rw[sum_bigL]at this
   exact ⟨A,xs,c,h1,h2,h3,this⟩
  refine ⟨fun cs x h=> ?_,h28⟩
  obtain ⟨xs,n,rfl,rfl,hl,hlen,hf⟩:=DataW.trod_struct Tryz.underlying30 h
  obtain ⟨a,b,c,rfl⟩:=three (hl.trans (by kernel_rfl))
  match xs,hlen with
  | [y0,y1,y2],_ =>
   have f0:=hf 0 _ rfl
   have f1:=hf 1 _ rfl
   have f2:=hf 2 _ rfl
   have g0:DataW.trod enc Tryz.prog w base spare held n 9 [a]=some y0:=f0
   have g1:DataW.trod enc Tryz.prog w base spare held n 27 [b]=some y1:=f1
   have g2:DataW.trod enc Tryz.prog w base spare held n 28 [c]=some y2:=f2
   obtain ⟨s,hs,rfl,_⟩:=DataW.trod_string Tryz.underlying9 g0
   obtain ⟨A1,zs,c1,hz,l1,r1,b1⟩:=open_intsC g1
   obtain ⟨A2,ts,c2,ht,l2,r2,b2⟩:=(ih n (Nat.lt_succ_self _)).2 _ _ g2
   injection hs with hs
   injection hz with hz
   injection ht with ht
   subst hs
   subst hz
   subst ht
   refine ⟨⟨s,zs,ts⟩,A1,c1,A2,c2,rfl,⟨l1,r1,l2,r2⟩,?_⟩
   rw[big_eq]
   show s.size+zs.length+bigL ts+1≤_
   have es:s.data.toList.length=s.size:=rfl
   simp only[List.map_cons,List.map_nil,Rows.uptoBulk,Rows.uptoBulkAll]
   omega
end
theorem agg3 {v a b c:Value} (h:v.cells.toList=[a,b,c]):v= .agg #[a,b,c]:=by
 cases v<;>simp[Value.cells]at h
 rename_i xs
 obtain ⟨l⟩:=xs
 simp at h
 rw[h]
theorem xP:PrintExtra Tryz.prog Tryz.lays339_ren:=⟨by kernel_rfl,by kernel_rfl,by kernel_rfl,by kernel_rfl,by kernel_rfl,by kernel_rfl,by kernel_rfl,by kernel_rfl,by kernel_rfl,by kernel_rfl⟩
theorem xU:U8Extra Tryz.prog Tryz.lays260_ren:=⟨by kernel_rfl,by kernel_rfl,by kernel_rfl,by kernel_rfl,by kernel_rfl,by kernel_rfl,by kernel_rfl⟩
end
open Go.RowKit Go.ChangeShapes Go.WideShapes Go.ChangeAt
section
theorem own:ownKnob Tryz.prog.godebug=none:=by kernel_rfl
theorem laidOut:laidOutB Tryz.prog=true:=by kernel_rfl
def laidL:List (String×DataW Unit):=Rows.semanticsSubjectUptoRow.laid
theorem laidL_plain:(laidL.all fun x=>x.2.handleName?.isNone)=true:=by kernel_rfl
theorem accept_eq:(Rows.laid_unicode_utf8_acceptRanges:DataW Unit)=Lib.acceptData:=by kernel_rfl
theorem pow_eq:(Rows.laid_internal_strconv_uint64pow10:DataW Unit)=Lib.tabData .u64 Lib.pow10Tab:=by kernel_rfl
theorem tabs_of_laid {W:World} (h:laidMetH Tryz.prog laidL W):Tabs Lib.goPrintTabs W:=by
 rw[MakeChecks.laidMetH_plain _ _ _ laidL_plain]at h
 have hL:=h
 refine ⟨printTabs_of_reads Tryz.lays339 xP
   (Pinned.isPrint16_eq▸Lib.laidMet.reads hL (.tail _ (.tail _ (.tail _ (.tail _ (.tail _ (.tail _ (.tail _ (.head _)))))))))
   (Pinned.isNotPrint16_eq▸Lib.laidMet.reads hL (.tail _ (.tail _ (.tail _ (.tail _ (.tail _ (.head _)))))))
   (Pinned.isPrint32_eq▸Lib.laidMet.reads hL (.tail _ (.tail _ (.tail _ (.tail _ (.tail _ (.tail _ (.tail _ (.tail _ (.head _))))))))))
   (Pinned.isNotPrint32_eq▸Lib.laidMet.reads hL (.tail _ (.tail _ (.tail _ (.tail _ (.tail _ (.tail _ (.head _)))))))),
  utf8Tabs_of_reads Tryz.lays260 xU
   (Pinned.utf8First_eq▸Lib.laidMet.reads hL (.tail _ (.tail _ (.tail _ (.tail _ (.tail _ (.tail _ (.tail _ (.tail _ (.tail _ (.head _)))))))))))
   (accept_eq▸Lib.laidMet.reads hL (.tail _ (.tail _ (.tail _ (.head _))))),?_⟩
 have h2:=laidMet.tail (laidMet.tail hL)
 exact Lib.tabIs_of_head (zs:=Lib.pow10Tab) (g:=0) (t:=209) (e:=198) (n:=20) (by kernel_rfl) (by kernel_rfl) (by kernel_rfl) (by kernel_rfl) (by kernel_rfl) (by kernel_rfl) (pow_eq▸h2)
noncomputable def w0 (os:Os):World:=World.laidAll Tryz.prog os laidL
theorem w0_shaped (os:Os) (args:Array Value):((w0 os).forCall (fun _ _=>0) ⟨#[],args,[]⟩).Shaped Tryz.prog :=
 World.shaped_of_ZipB (by kernel_rfl) (by kernel_rfl)
theorem w0_met (os:Os) (args:Array Value):laidMetH Tryz.prog laidL ((w0 os).forCall (fun _ _=>0) ⟨#[],args,[]⟩).memory:=by
 rw[MakeChecks.laidMetH_plain _ _ _ laidL_plain]
 exact laidMet_laidAll _ (by kernel_rfl) (by kernel_rfl)
section
variable {H:Type} {enc:TypeId×Value→H}
theorem row_witness {f:FuncId} {fn:Func} {s:OpenSpec} {conds:List PathCond} {apart:Bool} (os:Os) (args:Array Value)
  (hok:Input.okWideB Tryz.prog ((w0 os).forCall (fun _ _=>0) ⟨#[],args,[]⟩) f ⟨#[],args,[]⟩=true)
  (hrow:s.preRow enc Tryz.prog fn conds apart laidL ((w0 os).forCall (fun _ _=>0) ⟨#[],args,[]⟩).memory args) :
  ∃(w:World) (tape:Tape) (i:Input),w.os=os∧(w.forCall tape i).Shaped Tryz.checked.prog∧i.vars=[]∧Input.okWide Tryz.checked.prog (w.forCall tape i) .any w.heap.size f i ∧
   s.preRow enc Tryz.checked.prog fn conds apart laidL (w.forCall tape i).memory i.args∧({}:Assume).holds Tryz.checked.prog (lone (Frame.enter Tryz.checked.prog f i.args .normal) [] (w.forCall tape i)) :=
 ⟨w0 os,fun _ _=>0,⟨#[],args,[]⟩,World.laidAll_os _ _ _,w0_shaped os args,(Input.okWide_of_okWideB (base:=0) hok).1,(Input.okWide_of_okWideB hok).2,hrow,by
  simp only[Assume.holds]
  exact ⟨by simp,by simp,fun _=>Modest.zero,by simp,by simp⟩⟩
end
end
end Go.Proofs.YtcfjomnihhdpaaaGreatDoor.A
