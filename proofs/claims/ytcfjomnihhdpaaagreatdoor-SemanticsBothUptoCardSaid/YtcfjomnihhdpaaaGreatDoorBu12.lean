/-
  A part of the proof: Q16, Q17, Q18, Q19, Q20.
-/
import Derived.StillTailTactics
import Derived.Lib.ItoaLen
import Derived.Test.YtcfjomnihhdpaaaGreatDoorBu11
namespace Go.Proofs.YtcfjomnihhdpaaaGreatDoor.A
open Go.RowKit Go.Proofs.YtcfjomnihhdpaaaGreatDoorW.PrintWords Go.Proofs.YtcfjomnihhdpaaaGreatDoorW.PrintLast Go.Proofs.YtcfjomnihhdpaaaGreatDoorW.PrintMore
set_option linter.unusedVariables false
set_option linter.unusedSimpArgs false
section
attribute [local go_sem] Oper.semAt_some
theorem fop {n k:Nat} {o:Oper} {g:Nat→Value} {v:Value} {w:World} {J:Act→World→Prop} (hd:o.dst=some k) (hk:k<n) (h:J (frN n (upd g k v)) w):J ((frN n g).put o.dst v) w:=by
 rw[hd,frN_put hk]
 exact h
theorem calls_frN {id:FuncId} {F:Func} {c:Code} {args:Array Value} {Post:Ending→World→Prop} {W:World} (n:Nat) (f:Nat→Value) (hF:Tryz.prog.funcs[id]? =some F) (hb:F.body=some c) (hf:({tmps:=args++Array.replicate (F.ntmps-args.size) undef,defers:=[]}:Act)=frN n f) (h:c.wp Tryz.prog (bodyPost Tryz.prog F Post) (frN n f) W):Calls Tryz.prog id args W Post:=by
 refine calls_of_wp hF hb ?_
 show Code.wp _ _ _ ({tmps:=args++Array.replicate (F.ntmps-args.size) undef,defers:=[]}:Act) W
 rw[hf]
 exact h
def MnAtG (w:World) (g:Nat) (ok:Nat→Prop) (m:S70):Prop:=∃A2 c2 A5 c5,w.heap[g]? =some (.cells #[.int .i64 m.f0.f0,.string m.f0.f1,.slice A2 m.f0.f2.length c2,.int .i64 m.f0.f3,.int .i64 m.f0.f4,.slice A5 m.f0.f5.length c5,.int .i64 m.f1,.int .i64 m.f2,.bool m.f3] 70 (0,0))∧MnV w ok (mnW m A2 c2 A5 c5) m
def Nine (w:World) (g:Nat):Prop:=∃z0 z1 z2 z3 z4 z5 z6 z7 z8,w.heap[g]? =some (.cells #[z0,z1,z2,z3,z4,z5,z6,z7,z8] 70 (0,0))
theorem MnAtG.nine {w:World} {g:Nat} {ok:Nat→Prop} {m:S70} (h:MnAtG w g ok m):Nine w g:=by
 obtain ⟨A2,c2,A5,c5,h,_⟩:=h
 exact ⟨_,_,_,_,_,_,_,_,_,h⟩
theorem Nine.zero {w:World} {g:Nat} (h:w.heap[g]? =some zeroMn):Nine w g:=⟨_,_,_,_,_,_,_,_,_,h⟩
def MnO (w:World) (ok:Nat→Prop) (r:Option S70) (v:Value):Prop:=∃m,r=some m∧MnV w ok v m
def MnsO (w:World) (ok:Nat→Prop) (r:Option (List S70)) (v:Value):Prop:=∃ms A,r=some ms∧v= .slice A ms.length ms.length∧ms.length≤1000000∧Kd.F k70 w ok A ms.length ms
section
variable {ops:Array Oper} {Q:Exit→Act→World→Prop} {R:Act→World→Prop} {RP:World→Prop} {i:Nat} {o:Oper} {J:Act→World→Prop} {a:Act} {w:World}
theorem op_ld4 {k:Tmp} {b:Nat} {v:Value} (hi:ops[i]? =some o) (hg:o.guard=none) (ho:o.op= .load 4 (.tmp k)) (ha:a.tmps[k]?.getD undef= .pointer (some ⟨b,0,none⟩)) (hb:BoxAt w b 4 v) (h:J (a.put o.dst v) w):wpOp Tryz.prog ops Q i J a w:=by
 have hc:=hb.cell
 refine op_value hi (wanted_none hg) (w' :=w) ?_ h
 unfold execOp
 rw[ho]
 go_simp
theorem op_ld3 {k:Tmp} {b:Nat} {v:Value} (hi:ops[i]? =some o) (hg:o.guard=none) (ho:o.op= .load 3 (.tmp k)) (ha:a.tmps[k]?.getD undef= .pointer (some ⟨b,0,none⟩)) (hb:BoxAt w b 3 v) (h:J (a.put o.dst v) w):wpOp Tryz.prog ops Q i J a w:=by
 have hc:=hb.cell
 refine op_value hi (wanted_none hg) (w' :=w) ?_ h
 unfold execOp
 rw[ho]
 go_simp
theorem op_ne0 {k:Tmp} {n:Int} (hi:ops[i]? =some o) (hg:o.guard=none) (ho:o.op= .binOp .neq 3 (.tmp k) (.const (.int .i64 0)) 3) (ha:a.tmps[k]?.getD undef= .int .i64 n) (h:J (a.put o.dst (.bool (n != 0))) w):wpOp Tryz.prog ops Q i J a w:=by
 refine op_value hi (wanted_none hg) (w' :=w) ?_ h
 unfold execOp
 rw[ho]
 go_simp
theorem op_new70 (hi:ops[i]? =some o) (hg:o.guard=none) (ho:o.op= .alloc 70) (h:∀w',w'.heap[w.heap.size]? =some zeroMn→Below w.heap.size w w' →J (a.put o.dst (.pointer (some ⟨w.heap.size,0,none⟩))) w'):wpOp Tryz.prog ops Q i J a w:=by
 refine op_value hi (wanted_none hg) (w' :=w.alloc (.cells #[.int .i64 0,.string ⟨#[]⟩,.slice none 0 0,.int .i64 0,.int .i64 0,.slice none 0 0,.int .i64 0,.int .i64 0,.bool false] 70)) ?_ (h _ (blk_new w _) (below_alloc (Below.refl _ _) _))
 unfold execOp
 rw[ho]
 go_simp
theorem op_box79 {k:Tmp} {x:Tm} (hi:ops[i]? =some o) (hg:o.guard=none) (ho:o.op= .box 79 (.tmp k)) (ha:a.tmps[k]?.getD undef=tmV x) (h:∀w',TmAt w' w.heap.size x→Below w.heap.size w w' →w'.heap.size=w.heap.size+1→J (a.put o.dst (.pointer (some ⟨w.heap.size,0,none⟩))) w'):wpOp Tryz.prog ops Q i J a w:=by
 unfold tmV at ha
 refine op_value hi (wanted_none hg) (w' :=w.alloc (.cells #[.int .i64 x.kind,.string x.name,.int .i64 x.index,.string x.sort] 79)) ?_ (h _ (blk_new w _) (below_alloc (Below.refl _ _) _) (by simp))
 unfold execOp
 rw[ho]
 go_simp
theorem op_ld70 {k:Tmp} {g:Nat} {ok:Nat→Prop} {m:S70} (hi:ops[i]? =some o) (hg:o.guard=none) (ho:o.op= .load 70 (.tmp k)) (ha:a.tmps[k]?.getD undef= .pointer (some ⟨g,0,none⟩)) (hm:MnAtG w g ok m) (h:∀v,MnV w ok v m→J (a.put o.dst v) w):wpOp Tryz.prog ops Q i J a w:=by
 obtain ⟨A2,c2,A5,c5,hb,hv⟩:=hm
 have hh:=h _ hv
 have c0_:=blk_cell hb 0
 have c1_:=blk_cell hb 1
 have c2_:=blk_cell hb 2
 have c3_:=blk_cell hb 3
 have c4_:=blk_cell hb 4
 have c5_:=blk_cell hb 5
 have c6_:=blk_cell hb 6
 have c7_:=blk_cell hb 7
 have c8_:=blk_cell hb 8
 simp at c0_ c1_ c2_ c3_ c4_ c5_ c6_ c7_ c8_
 unfold mnW at hh
 refine op_value hi (wanted_none hg) (w' :=w) ?_ hh
 unfold execOp
 rw[ho]
 go_simp
theorem op_st70G {k1 k2:Tmp} {g:Nat} {ok:Nat→Prop} {r:Option S70} {v:Value} (hi:ops[i]? =some o) (hg:o.guard=none) (hd:o.dst=none) (ho:o.op= .store 70 (.tmp k1) (.tmp k2)) (h1:a.tmps[k1]?.getD undef= .pointer (some ⟨g,0,none⟩)) (h2:a.tmps[k2]?.getD undef=v) (hz:Nine w g) (hm:MnO w ok r v) (hgB:∀k,ok k→k≠g)
  (h:∀m w',r=some m→MnAtG w' g ok m→Kp w w' (fun k=>k=g)→w'.heap.size=w.heap.size→J a w'):wpOp Tryz.prog ops Q i J a w:=by
 obtain ⟨m,rfl,hv⟩:=hm
 obtain ⟨A2,c2,A5,c5,rfl,hr⟩:=id hv
 obtain ⟨z0,z1,z2,z3,z4,z5,z6,z7,z8,hz⟩:=hz
 unfold mnW at h2
 have zf0:=blk_frozen hz 0
 have zf1:=blk_frozen hz 1
 have zf2:=blk_frozen hz 2
 have zf3:=blk_frozen hz 3
 have zf4:=blk_frozen hz 4
 have zf5:=blk_frozen hz 5
 have zf6:=blk_frozen hz 6
 have zf7:=blk_frozen hz 7
 have zf8:=blk_frozen hz 8
 have zc0:=blk_cell hz 0
 have zc1:=blk_cell hz 1
 have zc2:=blk_cell hz 2
 have zc3:=blk_cell hz 3
 have zc4:=blk_cell hz 4
 have zc5:=blk_cell hz 5
 have zc6:=blk_cell hz 6
 have zc7:=blk_cell hz 7
 have zc8:=blk_cell hz 8
 simp at zc0 zc1 zc2 zc3 zc4 zc5 zc6 zc7 zc8
 have hput:a.put none undef=a:=rfl
 have hh:=h m (set9 w g (.int .i64 m.f0.f0) (.string m.f0.f1) (.slice A2 m.f0.f2.length c2) (.int .i64 m.f0.f3) (.int .i64 m.f0.f4) (.slice A5 m.f0.f5.length c5) (.int .i64 m.f1) (.int .i64 m.f2) (.bool m.f3)) rfl ⟨A2,c2,A5,c5,fin9 hz _ _ _ _ _ _ _ _ _,hv.stored hgB _ _ _ _ _ _ _ _ _⟩ (by
  unfold set9
  have hs:∀k,k=g→k=g∨w.heap.size≤k:=fun _ h=> .inl h
  exact ((((((((Kp.setCell w ⟨g,0,none⟩ _).then_ (Kp.setCell _ ⟨g,1,none⟩ _) hs).then_ (Kp.setCell _ ⟨g,2,none⟩ _) hs).then_ (Kp.setCell _ ⟨g,3,none⟩ _) hs).then_ (Kp.setCell _ ⟨g,4,none⟩ _) hs).then_ (Kp.setCell _ ⟨g,5,none⟩ _) hs).then_ (Kp.setCell _ ⟨g,6,none⟩ _) hs).then_ (Kp.setCell _ ⟨g,7,none⟩ _) hs).then_ (Kp.setCell _ ⟨g,8,none⟩ _) hs) (by unfold set9;simp only[World.size_setCell])
 refine wpOp_step hi (fun K hK=> ?_)
 have hk:=hK _ _ hh
 rw[if_pos (wanted_none hg)]
 unfold Oper.wp execOp
 rw[ho]
 go_simp
 unfold set9 at hk
 exact hk
theorem op_f37k {k:Tmp} {n:Int} (hi:ops[i]? =some o) (hg:o.guard=none) (ho:o.op= .build 37 #[(0,.tmp k)]) (ha:a.tmps[k]?.getD undef= .int .i64 n) (h:J (a.put o.dst (.agg #[.int .i64 n,.string ⟨#[]⟩,.slice none 0 0,.int .i64 0,.int .i64 0,.slice none 0 0])) w):wpOp Tryz.prog ops Q i J a w:=by
 refine op_value hi (wanted_none hg) (w' :=w) ?_ h
 unfold execOp
 rw[ho]
 go_simp
theorem op_f37d {k k2:Tmp} {n f t:Int} (hi:ops[i]? =some o) (hg:o.guard=none) (ho:o.op= .build 37 #[(0,.const (.int .i64 n)),(3,.tmp k),(4,.tmp k2)]) (ha:a.tmps[k]?.getD undef= .int .i64 f) (hb:a.tmps[k2]?.getD undef= .int .i64 t) (h:J (a.put o.dst (.agg #[.int .i64 n,.string ⟨#[]⟩,.slice none 0 0,.int .i64 f,.int .i64 t,.slice none 0 0])) w):wpOp Tryz.prog ops Q i J a w:=by
 refine op_value hi (wanted_none hg) (w' :=w) ?_ h
 unfold execOp
 rw[ho]
 go_simp
theorem op_mns1G {k1:Tmp} {r:Option S70} {v1:Value} {ok:Nat→Prop} (hi:ops[i]? =some o) (hg:o.guard=none) (ho:o.op= .buildSlice 94 1 #[(0,.tmp k1)]) (h1:a.tmps[k1]?.getD undef=v1) (hm:MnO w ok r v1) (hB:∀k,w.heap.size≤k→ok k)
  (h:∀v w',MnsO w' ok (r.map fun m=>[m]) v→Below w.heap.size w w' →J (a.put o.dst v) w'):wpOp Tryz.prog ops Q i J a w:=by
 obtain ⟨m,rfl,hv1⟩:=hm
 obtain ⟨A2,c2,A5,c5,rfl,q1⟩:=id hv1
 refine op_value hi (wanted_none hg) (w' :=w.alloc (.cells #[.int .i64 m.f0.f0,.string m.f0.f1,.slice A2 m.f0.f2.length c2,.int .i64 m.f0.f3,.int .i64 m.f0.f4,.slice A5 m.f0.f5.length c5,.int .i64 m.f1,.int .i64 m.f2,.bool m.f3] 70)) (v:= .slice (some ⟨w.heap.size,0,none⟩) 1 1) ?_ (h _ _ ⟨[m],_,rfl,rfl,by simp,Kd.F_mono (mns1 (c:=[.int .i64 m.f0.f0,.string m.f0.f1,.slice A2 m.f0.f2.length c2,.int .i64 m.f0.f3,.int .i64 m.f0.f4,.slice A5 m.f0.f5.length c5,.int .i64 m.f1,.int .i64 m.f2,.bool m.f3]) (heap_alloc_new w _) (Kd.FK_below hv1.FK (below_alloc (Below.refl _ _) _))) (fun k hk=>hk.elim id (fun e=>hB k (Nat.le_of_eq e.symm)))⟩ (below_alloc (Below.refl _ _) _))
 unfold execOp
 rw[ho]
 unfold mnW at h1
 go_simp
theorem op_mns2G {k1 k2:Tmp} {r1 r2:Option S70} {v1 v2:Value} {ok:Nat→Prop} (hi:ops[i]? =some o) (hg:o.guard=none) (ho:o.op= .buildSlice 94 2 #[(0,.tmp k1),(1,.tmp k2)]) (h1:a.tmps[k1]?.getD undef=v1) (h2:a.tmps[k2]?.getD undef=v2) (hm1:MnO w ok r1 v1) (hm2:MnO w ok r2 v2) (hB:∀k,w.heap.size≤k→ok k)
  (h:∀v w',MnsO w' ok (r1.bind fun m1=>r2.bind fun m2=>some [m1,m2]) v→Below w.heap.size w w' →J (a.put o.dst v) w'):wpOp Tryz.prog ops Q i J a w:=by
 obtain ⟨m,rfl,hv1⟩:=hm1
 obtain ⟨y,rfl,hv2⟩:=hm2
 obtain ⟨A2,c2,A5,c5,rfl,q1⟩:=id hv1
 obtain ⟨B2,d2,B5,d5,rfl,q2⟩:=id hv2
 refine op_value hi (wanted_none hg) (w' :=w.alloc (.cells #[.int .i64 m.f0.f0,.string m.f0.f1,.slice A2 m.f0.f2.length c2,.int .i64 m.f0.f3,.int .i64 m.f0.f4,.slice A5 m.f0.f5.length c5,.int .i64 m.f1,.int .i64 m.f2,.bool m.f3,.int .i64 y.f0.f0,.string y.f0.f1,.slice B2 y.f0.f2.length d2,.int .i64 y.f0.f3,.int .i64 y.f0.f4,.slice B5 y.f0.f5.length d5,.int .i64 y.f1,.int .i64 y.f2,.bool y.f3] 70)) (v:= .slice (some ⟨w.heap.size,0,none⟩) 2 2) ?_ (h _ _ ⟨[m,y],_,rfl,rfl,by simp,Kd.F_mono (mns2 (a:=[.int .i64 m.f0.f0,.string m.f0.f1,.slice A2 m.f0.f2.length c2,.int .i64 m.f0.f3,.int .i64 m.f0.f4,.slice A5 m.f0.f5.length c5,.int .i64 m.f1,.int .i64 m.f2,.bool m.f3]) (b:=[.int .i64 y.f0.f0,.string y.f0.f1,.slice B2 y.f0.f2.length d2,.int .i64 y.f0.f3,.int .i64 y.f0.f4,.slice B5 y.f0.f5.length d5,.int .i64 y.f1,.int .i64 y.f2,.bool y.f3]) (heap_alloc_new w _) (Kd.FK_below hv1.FK (below_alloc (Below.refl _ _) _)) (Kd.FK_below hv2.FK (below_alloc (Below.refl _ _) _))) (fun k hk=>hk.elim id (fun e=>hB k (Nat.le_of_eq e.symm)))⟩ (below_alloc (Below.refl _ _) _))
 unfold execOp
 rw[ho]
 unfold mnW at h1 h2
 go_simp
theorem op_nodeG {k1 k2:Tmp} {ts:Array TypeId} {op:Int} {nm:ByteArray} {fr tl:Int} {r:Option (List S70)} {v2:Value} {ok:Nat→Prop} (hi:ops[i]? =some o) (hg:o.guard=none) (ho:o.op= .call {callee:= .value (.func 60),args:= #[.tmp k1,.tmp k2],argTypes:=ts}) (h1:a.tmps[k1]?.getD undef= .agg #[.int .i64 op,.string nm,.slice none 0 0,.int .i64 fr,.int .i64 tl,.slice none 0 0]) (h2:a.tmps[k2]?.getD undef=v2) (hm:MnsO w ok r v2) (hB:∀k,w.heap.size≤k→ok k)
  (h:∀v w',MnO w' ok (r.map (nodeP op nm fr tl)) v→Below w.heap.size w w' →J (a.put o.dst v) w'):wpOp Tryz.prog ops Q i J a w:=by
 obtain ⟨ms,A,rfl,rfl,hl,hF⟩:=hm
 refine op_call hi (wanted_none hg) ?_ ((node_calls w _ op nm fr tl A ms.length ms hF hl).mono ?_)
 ·have he:=enters_of Tryz.func60 (by kernel_rfl) rfl #[.agg #[.int .i64 op,.string nm,.slice none 0 0,.int .i64 fr,.int .i64 tl,.slice none 0 0],.slice A ms.length ms.length] w
  unfold execOp
  rw[ho]
  go_simp
 ·rintro e w' ⟨⟨v,rfl,hv⟩,hb⟩
  exact ⟨v,rfl,h v w' ⟨_,rfl,hv.mono (fun k hk=>hk.elim id (hB k))⟩ hb⟩
theorem op_bothG {k1 k2:Tmp} {ts:Array TypeId} {r1 r2:Option S70} {v1 v2:Value} {ok:Nat→Prop} (hi:ops[i]? =some o) (hg:o.guard=none) (ho:o.op= .call {callee:= .value (.func 85),args:= #[.tmp k1,.tmp k2],argTypes:=ts}) (h1:a.tmps[k1]?.getD undef=v1) (h2:a.tmps[k2]?.getD undef=v2) (hm1:MnO w ok r1 v1) (hm2:MnO w ok r2 v2) (hB:∀k,w.heap.size≤k→ok k)
  (h:∀v w',MnO w' ok (r1.bind fun m1=>r2.bind fun m2=>some (bothP m1 m2)) v→Below w.heap.size w w' →J (a.put o.dst v) w'):wpOp Tryz.prog ops Q i J a w:=by
 obtain ⟨m1,rfl,hv1⟩:=hm1
 obtain ⟨m2,rfl,hv2⟩:=hm2
 refine op_call hi (wanted_none hg) ?_ ((both_calls w ok v1 v2 m1 m2 hv1 hv2).mono ?_)
 ·have he:=enters_of Tryz.func85 (by kernel_rfl) rfl #[v1,v2] w
  unfold execOp
  rw[ho]
  go_simp
 ·rintro e w' ⟨⟨v,rfl,hv⟩,hb⟩
  exact ⟨v,rfl,h v w' ⟨_,rfl,hv.mono (fun k hk=>hk.elim id (hB k))⟩ hb⟩
theorem op_notG {k1:Tmp} {ts:Array TypeId} {m1:S70} {v1:Value} {ok:Nat→Prop} (hi:ops[i]? =some o) (hg:o.guard=none) (ho:o.op= .call {callee:= .value (.func 146),args:= #[.tmp k1],argTypes:=ts}) (h1:a.tmps[k1]?.getD undef=v1) (hv1:MnV w ok v1 m1) (hB:∀k,w.heap.size≤k→ok k)
  (h:∀v w',MnO w' ok (some (notP m1)) v→Below w.heap.size w w' →J (a.put o.dst v) w'):wpOp Tryz.prog ops Q i J a w:=by
 refine op_call hi (wanted_none hg) ?_ ((not_calls w ok v1 m1 hv1).mono ?_)
 ·have he:=enters_of Tryz.func146 (by kernel_rfl) rfl #[v1] w
  unfold execOp
  rw[ho]
  go_simp
 ·rintro e w' ⟨⟨v,rfl,hv⟩,hb⟩
  exact ⟨v,rfl,h v w' ⟨_,rfl,hv.mono (fun k hk=>hk.elim id (hB k))⟩ hb⟩
end
theorem Kp.toBelow_ {w w' :World} {g:Nat} (h:Kp w w' (fun k=>k=g)) {B:Nat} (hB:B≤g) (hg:g<w.heap.size):Below B w w' :=h.toBelow (Nat.le_of_lt (Nat.lt_of_le_of_lt hB hg)) (fun k hk=>by rw[hk];exact hB)
def St145 (W:World) (Bn Bo:Nat) (r:Option S70) (a:Act) (w:World):Prop:=∃g gb m,a=frN 24 g∧g 3= .pointer (some ⟨Bn,0,none⟩)∧g 4= .pointer (some ⟨Bo,0,none⟩)∧g 7= .pointer (some ⟨(W.heap.size+1),0,none⟩)∧g 8= .pointer (some ⟨gb,0,none⟩)∧r=some m∧W.heap.size+2≤gb∧Below W.heap.size W w∧Nine w (W.heap.size+1)∧MnAtG w gb (fun k=>W.heap.size+2≤k∧k≠gb) m
theorem Nine.below {w w1:World} {g:Nat} (h:Nine w g) (hB:Below w.heap.size w w1):Nine w1 g:=by
 obtain ⟨z0,z1,z2,z3,z4,z5,z6,z7,z8,h⟩:=h
 exact ⟨_,_,_,_,_,_,_,_,_,blk_below h hB⟩
theorem Nine.kp {w w1:World} {g:Nat} {S:Nat→Prop} (h:Nine w g) (hk:Kp w w1 S) (hn:¬S g):Nine w1 g:=by
 obtain ⟨z0,z1,z2,z3,z4,z5,z6,z7,z8,h⟩:=h
 exact ⟨_,_,_,_,_,_,_,_,_,hk.blk h hn⟩
theorem Nine.lt {w:World} {g:Nat} (h:Nine w g):g<w.heap.size:=by
 obtain ⟨z0,z1,z2,z3,z4,z5,z6,z7,z8,h⟩:=h
 exact blk_lt h
set_option maxHeartbeats 2000000 in
set_option maxRecDepth 100000 in
theorem clo145 {w:World} {ok:Nat→Prop} {Bv Bn Bo:Nat} {vv:Value} {v:Prd} {neg:Bool} {op:Int} (hxv:Fr w ok fun W=>BoxAt W Bv 76 vv) (hv:PrdV w ok vv v) (hxn:Fr w ok fun W=>BoxAt W Bn 4 (.bool neg)) (hxo:Fr w ok fun W=>BoxAt W Bo 3 (.int .i64 op)) :
  PrdV w ok (.func (.func 145) #[] #[.pointer (some ⟨Bv,0,none⟩),.pointer (some ⟨Bn,0,none⟩),.pointer (some ⟨Bo,0,none⟩)]) (modP op neg v):=by
 refine ⟨145,_,rfl,enters_of Tryz.func145 (by kernel_rfl) rfl,fun W hW depth x=> ?_⟩
 replace hxv:=hxv.ext hW
 replace hv:=hv.ext hW
 replace hxn:=hxn.ext hW
 replace hxo:=hxo.ext hW
 clear hW
 refine calls_frN 24 (fun j=>match j with | 0=> .int .i64 depth | 1=>tmV x | 2=> .pointer (some ⟨Bv,0,none⟩) | 3=> .pointer (some ⟨Bn,0,none⟩) | 4=> .pointer (some ⟨Bo,0,none⟩) | _=>undef) Tryz.func145 (show Tryz.f145.body=some _ from rfl) (by kernel_rfl) ?_
 refine wp_seq (wp_region_list (list_op (i:=0) rfl (op_box79 rfl rfl rfl rfl fun w1 hx hb1 hs1=>fop rfl (by decide) (list_op (i:=1) rfl (op_new70 rfl rfl rfl fun w2 hz2 hb2=>fop rfl (by decide) ?_)))))
 have hx2:=hx.below hb2
 have hB2:=below_step hb1 hb2
 rw[hs1]at hz2 hb2 ⊢
 have hs2:=hb2.size
 have hz3:=Nine.zero hz2
 have hl2:=hz3.lt
 refine wp_seq (wp_onNP (St145 W Bn Bo (v depth x)) (fun w' =>v depth x=none∧Below W.heap.size W w') (wp_region_list (list_op (i:=0) rfl (op_ld76 rfl rfl rfl rfl (hxv.below hB2).now (fop rfl (by decide) (list_op (i:=1) rfl (op_mv rfl rfl rfl rfl (fop rfl (by decide) (list_op (i:=2) rfl (op_ld79 rfl rfl rfl rfl hx2 (fop rfl (by decide) (list_op (i:=3) rfl (op_say (B:=W.heap.size+2) rfl rfl rfl rfl rfl rfl (hv.below hB2) rfl (fun e w' b=>⟨e,below_step hB2 b⟩) (by omega) fun u w3 hu hb3=>fop rfl (by decide) (list_op (i:=4) rfl (op_new70 rfl rfl rfl fun w4 hz4 hb4=>fop rfl (by decide) (list_op (i:=5) rfl (op_st70G (ok:=fun k=>W.heap.size+2≤k∧k≠w3.heap.size) rfl rfl rfl rfl rfl rfl (Nine.zero hz4) (hu.imp fun m hm=>⟨hm.1,(hm.2.bound.mono (fun k hk=>⟨hk.1,Nat.ne_of_lt hk.2⟩)).below hb4⟩) (fun k hk=>hk.2) fun m w5 e hm hk hs=> ?_)))))))))))))))) ?_ ?_)
 ·have h3:=hb3.size
  have hb5:=(hk.toBelow_ (B:=W.heap.size) (by omega) (Nine.zero hz4).lt)
  exact ⟨_,w3.heap.size,m,rfl,rfl,rfl,rfl,rfl,e,by omega,(below_step (below_step hB2 hb3) hb4).trans hb5,((hz3.below hb3).below hb4).kp hk (by omega),hm⟩
 ·rintro a' w' ⟨g,gb,m,rfl,g3,g4,g7,g8,e,hgb,hB,hz,hm⟩
  refine wp_seq (wp_onNP (St145 W Bn Bo ((v depth x).map fun m=>if neg then notP m else m)) (fun _=>False) (wp_seq (wp_region_list (list_op (i:=0) rfl (op_ld4 rfl rfl rfl g3 (hxn.below hB).now (fop rfl (by decide) (wp_cond (t:=neg) rfl ?_)))))) ?_ (fun _ _ _ h=>h.elim))
  ·cases neg with
   |false=>exact wp_skip ⟨_,gb,m,rfl,g3,g4,g7,g8,by rw[e];rfl,hgb,hB,hz,hm⟩
   |true =>
    refine wp_region_list (list_op (i:=0) rfl (op_ld70 rfl rfl rfl g8 hm fun u hu=>fop rfl (by decide) (list_op (i:=1) rfl (op_notG rfl rfl rfl rfl hu (fun k hk=>⟨by have:=hB.size;have:=hz.lt;omega,by have:=hm.nine.lt;omega⟩) fun u2 w2 hu2 hb2=>fop rfl (by decide) (list_op (i:=2) rfl (op_st70G rfl rfl rfl rfl g8 rfl (hm.nine.below hb2) hu2 (fun k hk=>hk.2) fun m2 w3 e2 hm2 hk hs=> ?_))))))
    exact ⟨_,gb,m2,rfl,g3,g4,g7,g8,by rw[e];exact e2,hgb,(below_step hB hb2).trans (hk.toBelow_ (by omega) (hm.nine.below hb2).lt),(hz.below hb2).kp hk (by omega),hm2⟩
  ·clear e hm hz hB hgb g3 g4 g7 g8 m gb g
   rintro a' w' ⟨g,gb,m,rfl,g3,g4,g7,g8,e,hgb,hB,hz,hm⟩
   refine wp_seq (wp_onNP (St145 W Bn Bo ((v depth x).map (dutyP op neg))) (fun _=>False) (wp_seq (wp_region_list (list_op (i:=0) rfl (op_ld3 rfl rfl rfl g4 (hxo.below hB).now (fop rfl (by decide) (list_op (i:=1) rfl (op_ne0 (n:=op) rfl rfl rfl rfl (fop rfl (by decide) (wp_cond (t:=op != 0) rfl ?_))))))))) ?_ (fun _ _ _ h=>h.elim))
   ·have hdu:((v depth x).map (dutyP op neg))=if op=0 then some m else some (nodeP op ⟨#[]⟩ 0 0 [m]):=by
     cases hv:v depth x with
     |none=>rw[hv]at e;cases e
     |some m0 =>
      rw[hv]at e
      have e' :(if neg then notP m0 else m0)=m:=Option.some.inj e
      rw[Option.map_some,dutyP,e']
      split<;>rfl
    rw[hdu]
    by_cases h0:op=0
    ·subst h0
     exact wp_skip ⟨_,gb,m,rfl,g3,g4,g7,g8,rfl,hgb,hB,hz,hm⟩
    ·rw[if_neg h0,if_pos (show (op != 0)=true by simpa using h0)]
     have hge:∀{w2},Below w'.heap.size w' w2→∀k,w2.heap.size≤k→W.heap.size+2≤k∧k≠gb:=fun hb k hk=>by have:=hb.size;have:=hz.lt;have:=hm.nine.lt;omega
     refine wp_region_list (list_op (i:=0) rfl (op_ld3 rfl rfl rfl g4 (hxo.below hB).now (fop rfl (by decide) (list_op (i:=1) rfl (op_f37k (n:=op) rfl rfl rfl rfl (fop rfl (by decide) (list_op (i:=2) rfl (op_ld70 rfl rfl rfl g8 hm fun u hu=>fop rfl (by decide) (list_op (i:=3) rfl (op_mns1G rfl rfl rfl rfl ⟨m,rfl,hu⟩ (hge (.refl _ _)) fun u1 w1 hu1 hb1=>fop rfl (by decide) (list_op (i:=4) rfl (op_nodeG (op:=op) (nm:=⟨#[]⟩) (fr:=0) (tl:=0) rfl rfl rfl rfl rfl hu1 (hge hb1) fun u2 w2 hu2 hb2=>fop rfl (by decide) (list_op (i:=5) rfl (op_st70G rfl rfl rfl rfl g8 rfl ((hm.nine.below hb1).below hb2) hu2 (fun k hk=>hk.2) fun m2 w3 e2 hm2 hk hs=> ?_))))))))))))))
     exact ⟨_,gb,m2,rfl,g3,g4,g7,g8,e2,hgb,(below_step (below_step hB hb1) hb2).trans (hk.toBelow_ (by omega) ((hm.nine.below hb1).below hb2).lt),((hz.below hb1).below hb2).kp hk (by omega),hm2⟩
   ·clear e hm hz hB hgb g3 g4 g7 g8 m gb g
    rintro a' w' ⟨g,gb,m,rfl,g3,g4,g7,g8,e,hgb,hB,hz,hm⟩
    refine wp_seq (wp_region_list (list_op (i:=0) rfl (op_ld70 rfl rfl rfl g8 hm fun u hu=>fop rfl (by decide) (list_op (i:=1) rfl (op_st70G (ok:=fun k=>W.heap.size+2≤k∧k≠gb) rfl rfl rfl rfl g7 rfl hz ⟨m,rfl,hu⟩ (fun k hk=>by omega) fun m2 w3 e2 hm2 hk hs=> ?_)))))
    obtain ⟨A2,c2,A5,c5,hb,hmv⟩:=hm2
    refine wp_ret (bodyPost_ret (results_single (show Tryz.f145.results= #[.cell 7 70]from rfl) (.cell (W.heap.size+1) 70 _ (0,0) _ g7 hb Tryz.underlying70 rfl (by kernel_rfl) .nil)) rfl ?_)
    obtain rfl:=Option.some.inj e2
    show PostM W ((v depth x).map (dutyP op neg)) _ _
    rw[e]
    exact PostM.yes (hB.trans (hk.toBelow_ (by omega) hz.lt)) (hmv.mono (fun k hk=>by omega))
 ·rintro a' w' hd ⟨e,hB⟩
  refine ⟨hd,?_⟩
  show PostM W ((v depth x).map (dutyP op neg)) _ _
  rw[e]
  exact PostM.no hB
end
section
attribute [local go_sem] Oper.semAt_some
section
variable {ops:Array Oper} {Q:Exit→Act→World→Prop} {R:Act→World→Prop} {RP:World→Prop} {i:Nat} {o:Oper} {J:Act→World→Prop} {a:Act} {w:World}
theorem op_box1 {ty:TypeId} {k:Tmp} {v:Value} (hi:ops[i]? =some o) (hg:o.guard=none) (ho:o.op= .box ty (.tmp k)) (hv:ty=3∧(∃n:Int,v= .int .i64 n)∨ty=4∧∃b:Bool,v= .bool b) (ha:a.tmps[k]?.getD undef=v) (h:∀w',BoxAt w' w.heap.size ty v→Below w.heap.size w w' →w'.heap.size=w.heap.size+1→J (a.put o.dst (.pointer (some ⟨w.heap.size,0,none⟩))) w'):wpOp Tryz.prog ops Q i J a w:=by
 refine op_value hi (wanted_none hg) (w' :=w.alloc (.cells #[v] ty)) ?_ (h _ (blk_new w _) (below_alloc (Below.refl _ _) _) (by simp))
 rcases hv with ⟨rfl,n,rfl⟩ | ⟨rfl,b,rfl⟩<;>unfold execOp<;>rw[ho]<;>go_simp
theorem op_mf3 {g:FuncId} {k1 k2 k3:Tmp} {v1 v2 v3:Value} (hi:ops[i]? =some o) (hg:o.guard=none) (ho:o.op= .makeFunc (.func g) #[] #[.tmp k1,.tmp k2,.tmp k3]) (h1:a.tmps[k1]?.getD undef=v1) (h2:a.tmps[k2]?.getD undef=v2) (h3:a.tmps[k3]?.getD undef=v3) (h:J (a.put o.dst (.func (.func g) #[] #[v1,v2,v3])) w):wpOp Tryz.prog ops Q i J a w:=by
 refine op_value hi (wanted_none hg) (w' :=w) ?_ h
 unfold execOp
 rw[ho]
 go_simp
theorem op_app0 {k1 k2 k4:Tmp} {ts:Array TypeId} {bp:Nat} {t:S30} {A1 A2:Option Addr} {c1 c2:Nat} {depth:Int} {v4:Value} {f:Prd} {F:Int→Prd→Option S70} {B:Nat} (hi:ops[i]? =some o) (hg:o.guard=none) (ho:o.op= .call {callee:= .value (.func 133),args:= #[.tmp k1,.tmp k2,.const (.int .i64 depth),.tmp k4],argTypes:=ts})
  (h1:a.tmps[k1]?.getD undef= .pointer (some ⟨bp,0,none⟩)) (h2:a.tmps[k2]?.getD undef= .agg #[.string t.f0,.slice A1 t.f1.length c1,.slice A2 t.f2.length c2]) (h4:a.tmps[k4]?.getD undef=v4) (hv:PrdV w (fun _=>True) v4 f) (hF:ApplyC bp t F w) (tv:TreeV w t A1 c1 A2 c2) (had:a.defers=[]) (hp:F depth f=none→∀w',Below w.heap.size w w' →RP w') (hB:B≤w.heap.size)
  (h:∀v w',(Kn.mn B (F depth f)).In v w' →Below w.heap.size w w' →J (a.put o.dst v) w'):wpOp Tryz.prog ops (OnNP R RP) i J a w:=by
 refine op_pm hi hg ?_ (hF A1 c1 A2 c2 tv.v tv.l1 tv.k tv.l2 depth v4 f hv) had hp hB h
 have he:=enters_of Tryz.func133 (by kernel_rfl) rfl #[.pointer (some ⟨bp,0,none⟩),.agg #[.string t.f0,.slice A1 t.f1.length c1,.slice A2 t.f2.length c2],.int .i64 depth,v4] w
 unfold execOp
 rw[ho]
 go_simp
end
set_option maxHeartbeats 2000000 in
set_option maxRecDepth 100000 in
theorem modal_calls (s:Sg) (t:S30) (op:Int) (neg:Bool) (w:World) (bp mb Bb Bt:Nat) (A1:Option Addr) (c1:Nat) (A2:Option Addr) (c2:Nat) (hb:Bld w bp mb s) (hbb:BoxAt w Bb 73 (.pointer (some ⟨bp,0,none⟩))) (hT:TreeAt w Bt t A1 c1 A2 c2) (hps:∀p∈s.ps,1≤p.f1.length) (hres:resP t=true) (hl:t.f2.length=2) (hf0:formedP structL (kidOf t 0) cNP=true) (hf1:formedP structL (kidOf t 1) cVP=true) :
  Calls Tryz.prog 144 #[.int .i64 op,.bool neg,.pointer (some ⟨Bb,0,none⟩),.pointer (some ⟨Bt,0,none⟩)] w (PostM w (modalP s op neg t)):=by
 obtain ⟨ad1,B11,d11,B12,d12,e1,y10,y11,y12,l11,i11,l12,i12⟩:=at_T30 hT.k 1 (by omega) (by omega)
 subst e1
 obtain ⟨ad0,B01,d01,B02,d02,e0,y00,y01,y02,l01,i01,l02,i02⟩:=at_T30 hT.k 0 (by omega) (by omega)
 obtain rfl:=Option.some.inj e0
 refine calls_frN 21 (fun j=>match j with | 0=> .int .i64 op | 1=> .bool neg | 2=> .pointer (some ⟨Bb,0,none⟩) | 3=> .pointer (some ⟨Bt,0,none⟩) | _=>undef) Tryz.func144 (show Tryz.f144.body=some _ from rfl) (by kernel_rfl) ?_
 refine wp_seq (wp_region_list (list_op (i:=0) rfl (op_box1 rfl rfl rfl (.inl ⟨rfl,_,rfl⟩) rfl fun u1 xo hb1 hs1=>fop rfl (by decide) (list_op (i:=1) rfl (op_box1 rfl rfl rfl (.inr ⟨rfl,_,rfl⟩) rfl fun u2 xg hb2 hs2=>fop rfl (by decide) (list_op (i:=2) rfl (op_new70 rfl rfl rfl fun W2 xr hb3=>fop rfl (by decide) ?_)))))))
 rw[hs1]at xg hs2
 rw[hs2]at xr
 replace xo:=(xo.below hb2).below hb3
 replace xg:=xg.below hb3
 have hB2:=below_step (below_step hb1 hb2) hb3
 have hs3:w.heap.size+3≤W2.heap.size:=by have:=blk_lt xr;omega
 rw[hs1,hs2]
 refine wp_seq (wp_onNP (fun a' V=>∃g gv v fv,a' =frN 21 g∧g 2= .pointer (some ⟨Bb,0,none⟩)∧g 3= .pointer (some ⟨Bt,0,none⟩)∧g 4= .pointer (some ⟨w.heap.size,0,none⟩)∧g 5= .pointer (some ⟨(w.heap.size+1),0,none⟩)∧g 6= .pointer (some ⟨(w.heap.size+1+1),0,none⟩)∧g 7= .pointer (some ⟨gv,0,none⟩)∧verbP s (nodes (kidOf t 1)) (kidOf t 1)=some fv∧BoxAt V gv 76 v∧PrdV V (fun k=>k<w.heap.size∨w.heap.size≤k) v fv∧Below W2.heap.size W2 V) (fun w' =>modalP s op neg t=none∧Below w.heap.size w w') ?_ ?_ (fun a' w' hd h=>by obtain ⟨e,hB⟩:=h;refine ⟨hd,?_⟩;rw[e];exact PostM.no hB))
 ·have bw:∀{V},Below W2.drew.heap.size W2.drew V→Below w.heap.size w V:=fun hB=>below_step hB2 (below_step (below_drew (Below.refl _ _)) hB)
  refine region_box 76 #[.nilFunc] (fun v=> #[v]) 21 [.is (.pointer (some ⟨bp,0,none⟩)),.is (.pointer (some ⟨Bt,2,none⟩)),.is (.slice (some ad1) t.f2.length c2),.is (.pointer (some (ad1.add ((1:Int).toNat*3)))),.is (.agg #[.string (kidOf t 1).f0,.slice B11 (kidOf t 1).f1.length d11,.slice B12 (kidOf t 1).f2.length d12]),.fn (fun k=>k<w.heap.size∨w.heap.size≤k) (verbP s (nodes (kidOf t 1)) (kidOf t 1)),.top,.top] [⟨6,7,5⟩] [8,9,10,11,12,13,7,907] _ W2 (by kernel_rfl) (by kernel_rfl) (by kernel_rfl) ?_ ?_ ?_
  ·intro j hj v w pr
   have hj2:j=6∨j=7:=by
    by_cases h6:j=6
    ·exact .inl h6
    ·by_cases h7:j=7
     ·exact .inr h7
     ·exact absurd (fun b hb=>by rcases List.mem_singleton.1 hb with rfl;exact ⟨fun e=>h6 e.symm,fun e=>h7 e.symm⟩) hj
   rcases hj2 with rfl | rfl<;>trivial
  ·exact ⟨fun q V J pr hB hp hq h hi=>op_ld73 hi rfl rfl rfl (hbb.below (bw hB)) (h _ _ rfl (.refl _ _)),
   fun q V J pr hB hp hq h hi=>op_fa (c:=2) hi rfl rfl rfl (h _ _ rfl (.refl _ _)),
   fun q V J pr hB hp hq h hi=>op_ld28 hi rfl rfl (hq 1 rfl) (blk_cell (blk_below hT.blk (bw hB)) 2) (h _ _ rfl (.refl _ _)),
   fun q V J pr hB hp hq h hi=>op_ix hi rfl rfl (eq_true (by decide)) (eq_true (by omega)) (hq 2 rfl) (h _ _ rfl (.refl _ _)),
   fun q V J pr hB hp hq h hi=>op_ldT hi rfl rfl (hq 3 rfl) (pw_cell_below (bw hB) y10) (pw_cell_below (bw hB) y11) (pw_cell_below (bw hB) y12) (h _ _ rfl (.refl _ _)),
   fun q V J pr hB hp hq h hi=>op_prdT (enters_of Tryz.func86 (by kernel_rfl) rfl) hi rfl rfl (hq 0 rfl) (hq 4 rfl) ((mean_calls s hps (nodes (kidOf t 1))).2.1 (kidOf t 1) (Nat.le_refl _) hf1 (res_kid hres (by omega)) w V bp mb B11 d11 B12 d12 (bw hB) hb ⟨l11,i11,l12,i12⟩) rfl (fun e w' b=>⟨by rw[modalP,e];rfl,below_step (bw hB) b⟩) (fun k hk=>⟨Nat.le_trans hB2.size (hp k hk).1,(hp k hk).2⟩) (bw hB).size h,
   fun x V J h hi=>op_new76 hi rfl rfl h,
   fun x V J g pr hx hc hz h hi=>op_st76 hi rfl rfl rfl hx rfl (by obtain ⟨m,_,g2,cap,e,_⟩:=hc;exact ⟨g2,cap,e⟩) hz (fun w' =>h undef w'),trivial⟩
  intro q V hB hx hI
  obtain ⟨gv,v,fv,e1,e2,e3,e4,e5⟩:=got_mk (w0:=w) (w:=w) hI (b:=⟨6,7,5⟩) (by simp) hB2.size (hx 5 (by decide) (by simp))
  exact ⟨_,gv,v,fv,rfl,rfl,rfl,rfl,rfl,rfl,e1,e5,e3,e4,below_step (below_drew (Below.refl _ _)) hB⟩
 rintro a' V0 ⟨g,gv,v,fv,rfl,f2,f3,f4,f5,f6,f7,ev,gx,gf,hV⟩
 have b3:∀{V},Below V0.drew.heap.size V0.drew V→Below V0.heap.size V0 V:=fun hB=>below_step (below_drew (Below.refl _ _)) hB
 have bv:∀{V},Below V0.drew.heap.size V0.drew V→Below w.heap.size w V:=fun hB=>below_step hB2 (below_step hV (b3 hB))
 refine wp_seq (wp_onNP (fun a' w' =>∃g',a' =frN 21 g' ∧g' 6= .pointer (some ⟨(w.heap.size+1+1),0,none⟩)∧Below w.heap.size w w' ∧∃m,modalP s op neg t=some m∧MnAt w' (w.heap.size+2) (w.heap.size+3) m) (fun w' =>modalP s op neg t=none∧Below w.heap.size w w') ?_ ?_ (fun a' w' hd h=>by obtain ⟨e,hB⟩:=h;refine ⟨hd,?_⟩;rw[e];exact PostM.no hB))
 ·refine region_kn 7 21 [.is (.pointer (some ⟨bp,0,none⟩)),.is (.pointer (some ⟨Bt,2,none⟩)),.is (.slice (some ad1) t.f2.length c2),.is (.pointer (some (ad1.add ((0:Int).toNat*3)))),.is (.agg #[.string (kidOf t 0).f0,.slice B01 (kidOf t 0).f1.length d01,.slice B02 (kidOf t 0).f2.length d02]),.is (.func (.func 145) #[] #[.pointer (some ⟨gv,0,none⟩),.pointer (some ⟨w.heap.size+1,0,none⟩),.pointer (some ⟨w.heap.size,0,none⟩)]),.mn (w.heap.size+3) (applyP s (nodes (kidOf t 0)) (kidOf t 0) 0 (modP op neg fv))] [14,15,16,17,18,19,20,999] g V0 rfl (by kernel_rfl) (by kernel_rfl) (by kernel_rfl) ⟨
  fun q V J hB hq h hi=>op_ld73 hi rfl rfl f2 (hbb.below (bv hB)) (h _ _ rfl (.refl _ _)),
  fun q V J hB hq h hi=>op_fa (c:=2) hi rfl rfl f3 (h _ _ rfl (.refl _ _)),
  fun q V J hB hq h hi=>op_ld28 hi rfl rfl (hq 1 rfl) (blk_cell (blk_below hT.blk (bv hB)) 2) (h _ _ rfl (.refl _ _)),
  fun q V J hB hq h hi=>op_ix hi rfl rfl (eq_true (by decide)) (eq_true (by omega)) (hq 2 rfl) (h _ _ rfl (.refl _ _)),
  fun q V J hB hq h hi=>op_ldT hi rfl rfl (hq 3 rfl) (pw_cell_below (bv hB) y00) (pw_cell_below (bv hB) y01) (pw_cell_below (bv hB) y02) (h _ _ rfl (.refl _ _)),
  fun q V J hB hq h hi=>op_mf3 hi rfl rfl f7 f5 f4 (h _ _ rfl (.refl _ _)),
  fun q V J hB hq h hi=>op_app0 hi rfl rfl (hq 0 rfl) (hq 4 rfl) (hq 5 rfl) (clo145 (fr_box (gx.below (b3 hB)) trivial) ((gf.mono (fun _ _ _=>trivial)).below (b3 hB)) (fr_box (xg.below (below_step hV (b3 hB))) trivial) (fr_box (xo.below (below_step hV (b3 hB))) trivial)) ((mean_calls s hps (nodes (kidOf t 0))).2.2 (kidOf t 0) (Nat.le_refl _) hf0 (res_kid hres (by omega)) V bp mb (hb.below (bv hB))) (TreeV.below (w:=w) ⟨l01,i01,l02,i02⟩ (bv hB)) rfl (fun e w' b=>⟨by rw[modalP,ev,Option.bind_some,e],below_step (bv hB) b⟩) (Nat.le_trans hs3 (below_step hV (b3 hB)).size) h,trivial⟩ ?_
  intro o q V hi hB hx2
  injection hi with hi2
  subst hi2
  exact op_st70 rfl rfl rfl rfl f6 rfl (blk_below xr (below_step hV (b3 hB))) (hx2 6 (by decide)) (Nat.lt_succ_self _) fun m w' e hm hb=>⟨_,rfl,f6,(bv hB).trans (hb _ (by omega)),m,by rw[modalP,ev,Option.bind_some];exact e,hm⟩
 rintro a' V ⟨g',rfl,hp,hB,m,em,F2,g2,F5,g5,hbk,hm⟩
 refine wp_ret (bodyPost_ret (results_single (show Tryz.f144.results= #[.cell 6 70]from rfl) (.cell (w.heap.size+2) 70 _ (0,0) _ hp hbk Tryz.underlying70 rfl (by kernel_rfl) .nil)) rfl ?_)
 rw[em]
 exact PostM.yes hB (hm.mono (fun k hk=>by omega))
end
section
attribute [local go_sem] Oper.semAt_some
def Kg.mns {S:Nat→Prop} (ok:Nat→Prop) (hS:∀k,S k→¬ok k) (r:Option (List S70)):Kg S:=⟨fun v w=>MnsO w ok r v,fun _ w w' h hk=>by
 obtain ⟨ms,A,h1,h2,h3,h4⟩:=h
 exact ⟨ms,A,h1,h2,h3,Kd.F_step h4 (fun k ho hlt=>hk.block k hlt fun h=>hS k h ho)⟩⟩
section
variable {T:Lib.PrintTabs} {s:Sg} {w W4 W:World} {mb n g:Nat} {R ok:Nat→Prop} {en:Ents} {m:S70} {r:Option S70}
theorem MapInv.step (h:MapInv T s W4 mb ok en) (hb:∀k,(ok k∨k=mb)→k<W4.heap.size→W.heap[k]? =W4.heap[k]?):MapInv T s W mb ok en :=
 ⟨h.map.step (hb mb (.inr rfl) h.map.lt),fun x v hx=>(h.ok x v hx).step (fun k hk hlt=>hb k (.inl hk) hlt),h.nR⟩
def SentAt (T:Lib.PrintTabs) (s:Sg) (w:World) (mb:Nat) (R:Nat→Prop) (n:Nat) (r:Option S70) (g:Nat) (w' :World):Prop:=∃m,r=some m∧MnAtG w' g (fun k=>R k∨w.heap.size≤k) m∧Kp w w' (fun k=>k=mb)∧∃en,MapInv T s w' mb (fun k=>R k∨w.heap.size≤k) en∧en.length≤n
theorem SentAt.of_store (hk:Kp w W4 (fun k=>k=mb)) (hg:w.heap.size≤g) (hmb:mb<w.heap.size) (hok:∀k,ok k→k≠g∧(R k∨w.heap.size≤k)) (hR:¬R mb) (hI:∃en,MapInv T s W4 mb ok en∧en.length≤n) (e:r=some m) (hm:MnAtG W g ok m) (hs:Kp W4 W (fun k=>k=g)):SentAt T s w mb R n r g W:=by
 obtain ⟨en,hi,hl⟩:=hI
 obtain ⟨A2,c2,A5,c5,hb,hv⟩:=hm
 refine ⟨m,e,⟨A2,c2,A5,c5,hb,hv.mono (fun k hk=>(hok k hk).2)⟩,hk.then_ hs (fun k hk=> .inr (by rw[hk];exact hg)),en,(hi.step (W:=W) (fun k hk hlt=>hs.block k hlt ?_)).mono (fun k hk=>(hok k hk).2) (fun h=>h.elim hR (fun h=>absurd hmb (by omega))),hl⟩
 rcases hk with hk | hk
 ·exact (hok k hk).1
 ·rw[hk];omega
theorem SentAt.end_ {F:Func} {b:Nat} {a:Act} (hres:F.results= #[.cell b 70]) (hp:a.tmps.getD b undef= .pointer (some ⟨g,0,none⟩)) (hd:a.defers=[]) (h:SentAt T s w mb R n r g W):bodyPost Tryz.prog F (SentRet T s w mb R n r) .ret a W:=by
 obtain ⟨m,rfl,⟨A2,c2,A5,c5,hb,hm⟩,hk,en,hi,hl⟩:=h
 exact bodyPost_ret (results_single hres (.cell g 70 _ (0,0) _ hp hb Tryz.underlying70 rfl (by kernel_rfl) .nil)) hd (SentRet.yes hk hm hi hl)
end
section
variable {ops:Array Oper} {Q:Exit→Act→World→Prop} {R:Act→World→Prop} {RP:World→Prop} {i:Nat} {o:Oper} {J:Act→World→Prop} {a:Act} {w:World}
theorem op_s56 {k1 k2:Tmp} {ts:Array TypeId} {T:Lib.PrintTabs} {s:Sg} {n N L:Nat} {t:S30} {w0:World} {bp mb:Nat} {RR:Nat→Prop} {A1 A2:Option Addr} {c1 c2:Nat} (hi:ops[i]? =some o) (hg:o.guard=none) (ho:o.op= .call {callee:= .value (.func 56),args:= #[.tmp k1,.tmp k2],argTypes:=ts}) (h1:a.tmps[k1]?.getD undef= .pointer (some ⟨bp,0,none⟩)) (h2:a.tmps[k2]?.getD undef= .agg #[.string t.f0,.slice A1 t.f1.length c1,.slice A2 t.f2.length c2])
  (h56:SentC T s 56 n N) (ht:nodes t≤n) (h60:n≤60) (hf:formedP structL t cS=true) (hres:resP t=true) (hsm:Sm t) (hE:Env T s w0 w bp mb) (hI:∃en,MapInv T s w mb RR en∧en.length≤L) (tv:TreeV w t A1 c1 A2 c2) (hN:L+N<2 ^ 62) (had:a.defers=[]) (hp:sentP s n t=none→∀w',Kp w w' (fun k=>k=mb)→RP w') (hge:∀k,w.heap.size≤k→RR k)
  (h:∀v w',MnO w' RR (sentP s n t) v→Kp w w' (fun k=>k=mb)→(∃en,MapInv T s w' mb RR en∧en.length≤L+N)→J (a.put o.dst v) w'):wpOp Tryz.prog ops (OnNP R RP) i J a w:=by
 obtain ⟨en,hi',hlen⟩:=hI
 refine op_callP hi (wanted_none hg) ?_ ((h56 t ht h60 hf hres hsm w0 w bp mb RR en A1 c1 A2 c2 hE hi' tv (by omega)).mono ?_)
 ·have he:=enters_of Tryz.func56 (by kernel_rfl) rfl #[.pointer (some ⟨bp,0,none⟩),.agg #[.string t.f0,.slice A1 t.f1.length c1,.slice A2 t.f2.length c2]] w
  unfold execOp
  rw[ho]
  go_simp
 ·rintro e w' ⟨hk,hr⟩
  cases hq:sentP s n t with
  |none =>
   rw[hq]at hr
   exact .inr ⟨_,hr,rfl,had,hp hq w' hk⟩
  |some m =>
   rw[hq]at hr
   obtain ⟨v,rfl,hv,en',hm',hl'⟩:=hr
   exact .inl ⟨v,rfl,h v w' ⟨m,hq,hv.mono (fun k hk=>hk.elim id (hge k))⟩ hk ⟨en',hm'.mono (fun k hk=>hk.elim id (hge k)) hi'.nR,by omega⟩⟩
end
set_option maxHeartbeats 2000000 in
set_option maxRecDepth 100000 in
theorem during_calls (T:Lib.PrintTabs) (s:Sg) (n N:Nat) (h56:SentC T s 56 n N) (from_ to_:Int) (t:S30) (hn:nodes t≤n+1) (h60:n≤60) (hres:resP t=true) (hsm:Sm t) (hl:t.f2.length=1) (hf0:formedP structL (kidOf t 0) cS=true) (w0 w:World) (bp mb Bb Bt:Nat) (R:Nat→Prop) (en:Ents) (A1:Option Addr) (c1:Nat) (A2:Option Addr) (c2:Nat)
  (hE:Env T s w0 w bp mb) (hM:MapInv T s w mb R en) (hbb:BoxAt w Bb 73 (.pointer (some ⟨bp,0,none⟩))) (hT:TreeAt w Bt t A1 c1 A2 c2) (hN:en.length+(N)<2 ^ 62) :
  Calls Tryz.prog 147 #[.int .i64 from_,.int .i64 to_,.pointer (some ⟨Bb,0,none⟩),.pointer (some ⟨Bt,0,none⟩)] w (SentRet T s w mb R (en.length+(N)) ((sentP s n (kidOf t 0)).map (timeP from_ to_))):=by
 obtain ⟨ad0,B01,d01,B02,d02,e0,y00,y01,y02,l01,i01,l02,i02⟩:=at_T30 hT.k 0 (by omega) (by omega)
 subst e0
 refine calls_frN 18 (fun j=>match j with | 0=> .int .i64 from_ | 1=> .int .i64 to_ | 2=> .pointer (some ⟨Bb,0,none⟩) | 3=> .pointer (some ⟨Bt,0,none⟩) | _=>undef) Tryz.func147 (show Tryz.f147.body=some _ from rfl) (by kernel_rfl) ?_
 refine wp_seq (wp_region_list (list_op (i:=0) rfl (op_new70 rfl rfl rfl fun W2 xr hb2=>fop rfl (by decide) ?_)))
 have hd:Below W2.heap.size W2 W2.drew:=below_drew (Below.refl _ _)
 have hBd:=below_step hb2 hd
 have hlt:=blk_lt xr
 have hmb:=hM.lt
 have hnR:=hM.nR
 have hEd:=hE.below hBd
 have hMd:=(hM.bound.below hBd).mono (R' :=(fun k=>(R k∧k<w.heap.size)∨W2.heap.size≤k)) (fun k hk=> .inl hk) (fun h=>h.elim (fun h=>hnR h.1) (fun h=>by omega))
 have nS:∀k,k=mb→¬(fun k=>(R k∧k<w.heap.size)∨W2.heap.size≤k) k:=fun k e h=>hMd.nR (e▸h)
 have cK:∀{V},Kp W2.drew V (fun k=>k=mb)→∀{g:Nat} {cs:Array Value} {e:TypeId} {fr:Nat×Nat},w.heap[g]? =some (.cells cs e fr)→V.heap[g]? =some (.cells cs e fr):=fun hK=>fun h=>hK.blk_ hMd.map (blk_below h hBd)
 have cC:∀{V},Kp W2.drew V (fun k=>k=mb)→∀a v,w.cell? a=some v→V.cell? a=some v:=fun hK a v h=>hK.cells hMd.map a v (pw_cell_below hBd h)
 have kd:Kp w W2.drew (fun k=>k=mb):=Kp.of_below hBd _
 have ge:∀{V},Kp W2.drew V (fun k=>k=mb)→∀k,V.heap.size≤k→(fun k=>(R k∧k<w.heap.size)∨W2.heap.size≤k) k:=fun hK k hk=> .inr (Nat.le_trans hK.size hk)
 have hm2:∀{m},m<1→en.length+m*N+N<2 ^ 62:=fun {m} hm=>by
  have h:=Nat.mul_le_mul_right N (show m≤0 by omega)
  omega
 clear hb2
 refine wp_seq (wp_onNP (fun a' w' =>∃g,a' =frN 18 g∧g 6= .pointer (some ⟨w.heap.size,0,none⟩)∧SentAt T s w mb R (en.length+(N)) ((sentP s n (kidOf t 0)).map (timeP from_ to_)) w.heap.size w') (fun w' =>((sentP s n (kidOf t 0)).map (timeP from_ to_))=none∧Kp w w' (fun k=>k=mb)) ?_ ?_ (fun a' w' hd h=>by obtain ⟨e,hB⟩:=h;refine ⟨hd,?_⟩;rw[e];exact SentRet.no hB))
 ·refine region_kg (S:=fun k=>k=mb) 11 18 (fun m V=>∃en',MapInv T s V mb (fun k=>(R k∧k<w.heap.size)∨W2.heap.size≤k) en' ∧en'.length≤en.length+m*N) [.is (.int .i64 from_),.is (.int .i64 to_),.is (.agg #[.int .i64 10,.string ⟨#[]⟩,.slice none 0 0,.int .i64 from_,.int .i64 to_,.slice none 0 0]),.is (.pointer (some ⟨bp,0,none⟩)),.is (.pointer (some ⟨Bt,2,none⟩)),.is (.slice (some ad0) t.f2.length c2),.is (.pointer (some (ad0.add ((0:Int).toNat*3)))),.is (.agg #[.string (kidOf t 0).f0,.slice B01 (kidOf t 0).f1.length d01,.slice B02 (kidOf t 0).f2.length d02]),.mn (fun k=>(R k∧k<w.heap.size)∨W2.heap.size≤k) nS (sentP s n (kidOf t 0)),.mns (fun k=>(R k∧k<w.heap.size)∨W2.heap.size≤k) nS ((sentP s n (kidOf t 0)).map fun m=>[m]),.mn (fun k=>(R k∧k<w.heap.size)∨W2.heap.size≤k) nS (((sentP s n (kidOf t 0)).map fun m=>[m]).map (nodeP 10 ⟨#[]⟩ from_ to_))] [8] [7,8,9,10,11,12,13,14,15,16,17,999] _ W2 rfl (by kernel_rfl) (by kernel_rfl) (by kernel_rfl) (by decide) (by decide) (fun m w w' h hB=>by obtain ⟨en',h1,h2⟩:=h;exact ⟨en',h1.below hB,h2⟩) ⟨en,hMd,by omega⟩ ⟨
  fun q V J hK hq h hi=>op_mv hi rfl rfl rfl (h _ _ rfl (.refl _ _)),
  fun q V J hK hq h hi=>op_mv hi rfl rfl rfl (h _ _ rfl (.refl _ _)),
  fun q V J hK hq h hi=>op_f37d hi rfl rfl (hq 0 rfl) (hq 1 rfl) (h _ _ rfl (.refl _ _)),
  fun q V J hK hq h hi=>op_ld73 hi rfl rfl rfl (cK hK hbb) (h _ _ rfl (.refl _ _)),
  fun q V J hK hq h hi=>op_fa (c:=2) hi rfl rfl rfl (h _ _ rfl (.refl _ _)),
  fun q V J hK hq h hi=>op_ld28 hi rfl rfl (hq 4 rfl) (blk_cell (cK hK hT.blk) 2) (h _ _ rfl (.refl _ _)),
  fun q V J hK hq h hi=>op_ix hi rfl rfl (eq_true (by decide)) (eq_true (by omega)) (hq 5 rfl) (h _ _ rfl (.refl _ _)),
  fun q V J hK hq h hi=>op_ldT hi rfl rfl (hq 6 rfl) (cC hK _ _ y00) (cC hK _ _ y01) (cC hK _ _ y02) (h _ _ rfl (.refl _ _)),
  fun q V J m hm hK hG hq h hi=>op_s56 hi rfl rfl (hq 3 rfl) (hq 7 rfl) h56 (nodes_kid hn (by omega)) h60 hf0 (res_kid hres (by omega)) (hsm.kid (by omega)) (hEd.kp hMd.map hK) hG (TreeV.cells (w:=w) ⟨l01,i01,l02,i02⟩ (cC hK)) (hm2 hm) rfl (fun e w' hk=>⟨by rw[e];rfl,kd.then_ (hK.then_ hk (fun k h=> .inl h)) (fun k h=> .inl h)⟩) (ge hK) (fun v w' h1 h2 h3=>h v w' h1 h2 (h3.imp fun en' h=>⟨h.1,by have h9:=h.2;show _≤en.length+(m+1)*N;rw[Nat.succ_mul];omega⟩)),
  fun q V J hK hq h hi=>op_mns1G hi rfl rfl rfl (hq 8 rfl) (ge hK) h,
  fun q V J hK hq h hi=>op_nodeG hi rfl rfl (hq 2 rfl) rfl (hq 9 rfl) (ge hK) h,trivial⟩ ?_
  intro o q V hi hK hG hx2
  injection hi with hi2
  subst hi2
  refine op_st70G rfl rfl rfl rfl rfl rfl (Nine.zero (hK.blk_ hMd.map xr)) (hx2 10 (by decide)) (fun k hk=>by omega) fun m w' e hm hs hz=>⟨_,rfl,rfl,SentAt.of_store (kd.then_ hK (fun k h=> .inl h)) (Nat.le_refl _) hmb (fun k hk=>⟨by omega,hk.imp (fun h=>h.1) (fun h=>by omega)⟩) hnR (by obtain ⟨en',h1,h2⟩:=hG;exact ⟨en',h1,Nat.le_trans h2 (by show en.length+1*N≤_;omega)⟩) (by revert e;cases sentP s n (kidOf t 0)<;>exact id) hm hs⟩
 rintro a' V ⟨g,rfl,hp,hS⟩
 exact wp_ret (hS.end_ (show Tryz.f147.results= #[.cell 6 70]from rfl) hp rfl)
set_option maxHeartbeats 2000000 in
set_option maxRecDepth 100000 in
theorem connect_calls (T:Lib.PrintTabs) (s:Sg) (n N:Nat) (h56:SentC T s 56 n N) (op:Int) (t:S30) (hn:nodes t≤n+1) (h60:n≤60) (hres:resP t=true) (hsm:Sm t) (hl:t.f2.length=2) (hf1:formedP structL (kidOf t 1) cS=true) (hf0:formedP structL (kidOf t 0) cS=true) (w0 w:World) (bp mb Bb Bt:Nat) (R:Nat→Prop) (en:Ents) (A1:Option Addr) (c1:Nat) (A2:Option Addr) (c2:Nat)
  (hE:Env T s w0 w bp mb) (hM:MapInv T s w mb R en) (hbb:BoxAt w Bb 73 (.pointer (some ⟨bp,0,none⟩))) (hT:TreeAt w Bt t A1 c1 A2 c2) (hN:en.length+(N+N)<2 ^ 62) :
  Calls Tryz.prog 148 #[.int .i64 op,.pointer (some ⟨Bb,0,none⟩),.pointer (some ⟨Bt,0,none⟩)] w (SentRet T s w mb R (en.length+(N+N)) ((sentP s n (kidOf t 0)).bind fun x=>(sentP s n (kidOf t 1)).map (linkP op x))):=by
 obtain ⟨ad1,B11,d11,B12,d12,e1,y10,y11,y12,l11,i11,l12,i12⟩:=at_T30 hT.k 1 (by omega) (by omega)
 subst e1
 obtain ⟨ad0,B01,d01,B02,d02,e0,y00,y01,y02,l01,i01,l02,i02⟩:=at_T30 hT.k 0 (by omega) (by omega)
 obtain rfl:=Option.some.inj e0
 refine calls_frN 21 (fun j=>match j with | 0=> .int .i64 op | 1=> .pointer (some ⟨Bb,0,none⟩) | 2=> .pointer (some ⟨Bt,0,none⟩) | _=>undef) Tryz.func148 (show Tryz.f148.body=some _ from rfl) (by kernel_rfl) ?_
 refine wp_seq (wp_region_list (list_op (i:=0) rfl (op_new70 rfl rfl rfl fun W2 xr hb2=>fop rfl (by decide) ?_)))
 have hd:Below W2.heap.size W2 W2.drew:=below_drew (Below.refl _ _)
 have hBd:=below_step hb2 hd
 have hlt:=blk_lt xr
 have hmb:=hM.lt
 have hnR:=hM.nR
 have hEd:=hE.below hBd
 have hMd:=(hM.bound.below hBd).mono (R' :=(fun k=>(R k∧k<w.heap.size)∨W2.heap.size≤k)) (fun k hk=> .inl hk) (fun h=>h.elim (fun h=>hnR h.1) (fun h=>by omega))
 have nS:∀k,k=mb→¬(fun k=>(R k∧k<w.heap.size)∨W2.heap.size≤k) k:=fun k e h=>hMd.nR (e▸h)
 have cK:∀{V},Kp W2.drew V (fun k=>k=mb)→∀{g:Nat} {cs:Array Value} {e:TypeId} {fr:Nat×Nat},w.heap[g]? =some (.cells cs e fr)→V.heap[g]? =some (.cells cs e fr):=fun hK=>fun h=>hK.blk_ hMd.map (blk_below h hBd)
 have cC:∀{V},Kp W2.drew V (fun k=>k=mb)→∀a v,w.cell? a=some v→V.cell? a=some v:=fun hK a v h=>hK.cells hMd.map a v (pw_cell_below hBd h)
 have kd:Kp w W2.drew (fun k=>k=mb):=Kp.of_below hBd _
 have ge:∀{V},Kp W2.drew V (fun k=>k=mb)→∀k,V.heap.size≤k→(fun k=>(R k∧k<w.heap.size)∨W2.heap.size≤k) k:=fun hK k hk=> .inr (Nat.le_trans hK.size hk)
 have hm2:∀{m},m<2→en.length+m*N+N<2 ^ 62:=fun {m} hm=>by
  have h:=Nat.mul_le_mul_right N (show m≤1 by omega)
  omega
 clear hb2
 refine wp_seq (wp_onNP (fun a' w' =>∃g,a' =frN 21 g∧g 4= .pointer (some ⟨w.heap.size,0,none⟩)∧SentAt T s w mb R (en.length+(N+N)) ((sentP s n (kidOf t 0)).bind fun x=>(sentP s n (kidOf t 1)).map (linkP op x)) w.heap.size w') (fun w' =>((sentP s n (kidOf t 0)).bind fun x=>(sentP s n (kidOf t 1)).map (linkP op x))=none∧Kp w w' (fun k=>k=mb)) ?_ ?_ (fun a' w' hd h=>by obtain ⟨e,hB⟩:=h;refine ⟨hd,?_⟩;rw[e];exact SentRet.no hB))
 ·refine region_kg (S:=fun k=>k=mb) 16 21 (fun m V=>∃en',MapInv T s V mb (fun k=>(R k∧k<w.heap.size)∨W2.heap.size≤k) en' ∧en'.length≤en.length+m*N) [.is (.int .i64 op),.is (.agg #[.int .i64 op,.string ⟨#[]⟩,.slice none 0 0,.int .i64 0,.int .i64 0,.slice none 0 0]),.is (.pointer (some ⟨bp,0,none⟩)),.is (.pointer (some ⟨Bt,2,none⟩)),.is (.slice (some ad1) t.f2.length c2),.is (.pointer (some (ad1.add ((0:Int).toNat*3)))),.is (.agg #[.string (kidOf t 0).f0,.slice B01 (kidOf t 0).f1.length d01,.slice B02 (kidOf t 0).f2.length d02]),.mn (fun k=>(R k∧k<w.heap.size)∨W2.heap.size≤k) nS (sentP s n (kidOf t 0)),.is (.pointer (some ⟨bp,0,none⟩)),.is (.pointer (some ⟨Bt,2,none⟩)),.is (.slice (some ad1) t.f2.length c2),.is (.pointer (some (ad1.add ((1:Int).toNat*3)))),.is (.agg #[.string (kidOf t 1).f0,.slice B11 (kidOf t 1).f1.length d11,.slice B12 (kidOf t 1).f2.length d12]),.mn (fun k=>(R k∧k<w.heap.size)∨W2.heap.size≤k) nS (sentP s n (kidOf t 1)),.mns (fun k=>(R k∧k<w.heap.size)∨W2.heap.size≤k) nS ((sentP s n (kidOf t 0)).bind fun m1=>(sentP s n (kidOf t 1)).bind fun m2=>some [m1,m2]),.mn (fun k=>(R k∧k<w.heap.size)∨W2.heap.size≤k) nS (((sentP s n (kidOf t 0)).bind fun m1=>(sentP s n (kidOf t 1)).bind fun m2=>some [m1,m2]).map (nodeP op ⟨#[]⟩ 0 0))] [7,13] [5,6,7,8,9,10,11,12,13,14,15,16,17,18,19,20,999] _ W2 rfl (by kernel_rfl) (by kernel_rfl) (by kernel_rfl) (by decide) (by decide) (fun m w w' h hB=>by obtain ⟨en',h1,h2⟩:=h;exact ⟨en',h1.below hB,h2⟩) ⟨en,hMd,by omega⟩ ⟨
  fun q V J hK hq h hi=>op_mv hi rfl rfl rfl (h _ _ rfl (.refl _ _)),
  fun q V J hK hq h hi=>op_f37k hi rfl rfl (hq 0 rfl) (h _ _ rfl (.refl _ _)),
  fun q V J hK hq h hi=>op_ld73 hi rfl rfl rfl (cK hK hbb) (h _ _ rfl (.refl _ _)),
  fun q V J hK hq h hi=>op_fa (c:=2) hi rfl rfl rfl (h _ _ rfl (.refl _ _)),
  fun q V J hK hq h hi=>op_ld28 hi rfl rfl (hq 3 rfl) (blk_cell (cK hK hT.blk) 2) (h _ _ rfl (.refl _ _)),
  fun q V J hK hq h hi=>op_ix hi rfl rfl (eq_true (by decide)) (eq_true (by omega)) (hq 4 rfl) (h _ _ rfl (.refl _ _)),
  fun q V J hK hq h hi=>op_ldT hi rfl rfl (hq 5 rfl) (cC hK _ _ y00) (cC hK _ _ y01) (cC hK _ _ y02) (h _ _ rfl (.refl _ _)),
  fun q V J m hm hK hG hq h hi=>op_s56 hi rfl rfl (hq 2 rfl) (hq 6 rfl) h56 (nodes_kid hn (by omega)) h60 hf0 (res_kid hres (by omega)) (hsm.kid (by omega)) (hEd.kp hMd.map hK) hG (TreeV.cells (w:=w) ⟨l01,i01,l02,i02⟩ (cC hK)) (hm2 hm) rfl (fun e w' hk=>⟨by rw[e];rfl,kd.then_ (hK.then_ hk (fun k h=> .inl h)) (fun k h=> .inl h)⟩) (ge hK) (fun v w' h1 h2 h3=>h v w' h1 h2 (h3.imp fun en' h=>⟨h.1,by have h9:=h.2;show _≤en.length+(m+1)*N;rw[Nat.succ_mul];omega⟩)),
  fun q V J hK hq h hi=>op_ld73 hi rfl rfl rfl (cK hK hbb) (h _ _ rfl (.refl _ _)),
  fun q V J hK hq h hi=>op_fa (c:=2) hi rfl rfl rfl (h _ _ rfl (.refl _ _)),
  fun q V J hK hq h hi=>op_ld28 hi rfl rfl (hq 9 rfl) (blk_cell (cK hK hT.blk) 2) (h _ _ rfl (.refl _ _)),
  fun q V J hK hq h hi=>op_ix hi rfl rfl (eq_true (by decide)) (eq_true (by omega)) (hq 10 rfl) (h _ _ rfl (.refl _ _)),
  fun q V J hK hq h hi=>op_ldT hi rfl rfl (hq 11 rfl) (cC hK _ _ y10) (cC hK _ _ y11) (cC hK _ _ y12) (h _ _ rfl (.refl _ _)),
  fun q V J m hm hK hG hq h hi=>op_s56 hi rfl rfl (hq 8 rfl) (hq 12 rfl) h56 (nodes_kid hn (by omega)) h60 hf1 (res_kid hres (by omega)) (hsm.kid (by omega)) (hEd.kp hMd.map hK) hG (TreeV.cells (w:=w) ⟨l11,i11,l12,i12⟩ (cC hK)) (hm2 hm) rfl (fun e w' hk=>⟨by rw[e];cases sentP s n (kidOf t 0)<;>rfl,kd.then_ (hK.then_ hk (fun k h=> .inl h)) (fun k h=> .inl h)⟩) (ge hK) (fun v w' h1 h2 h3=>h v w' h1 h2 (h3.imp fun en' h=>⟨h.1,by have h9:=h.2;show _≤en.length+(m+1)*N;rw[Nat.succ_mul];omega⟩)),
  fun q V J hK hq h hi=>op_mns2G hi rfl rfl rfl rfl (hq 7 rfl) (hq 13 rfl) (ge hK) h,
  fun q V J hK hq h hi=>op_nodeG hi rfl rfl (hq 1 rfl) rfl (hq 14 rfl) (ge hK) h,trivial⟩ ?_
  intro o q V hi hK hG hx2
  injection hi with hi2
  subst hi2
  refine op_st70G rfl rfl rfl rfl rfl rfl (Nine.zero (hK.blk_ hMd.map xr)) (hx2 15 (by decide)) (fun k hk=>by omega) fun m w' e hm hs hz=>⟨_,rfl,rfl,SentAt.of_store (kd.then_ hK (fun k h=> .inl h)) (Nat.le_refl _) hmb (fun k hk=>⟨by omega,hk.imp (fun h=>h.1) (fun h=>by omega)⟩) hnR (by obtain ⟨en',h1,h2⟩:=hG;exact ⟨en',h1,Nat.le_trans h2 (by show en.length+2*N≤_;omega)⟩) (by revert e;cases sentP s n (kidOf t 0)<;>cases sentP s n (kidOf t 1)<;>exact id) hm hs⟩
 rintro a' V ⟨g,rfl,hp,hS⟩
 exact wp_ret (hS.end_ (show Tryz.f148.results= #[.cell 4 70]from rfl) hp rfl)
end
section
attribute [local go_sem] Oper.semAt_some
theorem valsL_size:∀(vs:List Int),(∀v∈vs,0≤v∧v≤9223372036854775807)→(valsL vs).length≤22*vs.length
 | [],_=>Nat.le_refl _
 |v::r,h=>by
  have ih:=valsL_size r (fun x hx=>h x (List.mem_cons_of_mem _ hx))
  have h0:=h v List.mem_cons_self
  have h1:=Lib.itoa_length_le v (by omega) h0.2
  have e:((itoaB v).data.toList).length=(Lib.itoa v).length:=rfl
  unfold valsL at ih ⊢
  rw[List.flatMap_cons,List.length_append,List.length_append,e]
  simp only[List.length_cons,List.length_nil]
  omega
mutual
theorem keyL_size (T:Lib.PrintTabs):∀(t:S30),Sm t→VOk t→(keyL T t).length≤70000000*nodes t
 |⟨f,vs,ks⟩,hs,hv=>by
  rw[Sm]at hs
  rw[VOk]at hv
  have h1:=valsL_size vs hv.1
  have h2:=keysL_size T ks hs.2.2.2 hv.2
  have h3:=Lib.quoteZ_length_le T f
  have e:((quoteB T f).data.toList).length=(Lib.quoteZ T f).length:=by unfold quoteB;rw[strOfNums_data,List.length_map]
  rw[keyL_eq,List.length_append,List.length_cons,List.length_append,List.length_append,show S30.f0 ⟨f,vs,ks⟩=f from rfl,show S30.f1 ⟨f,vs,ks⟩=vs from rfl,show S30.f2 ⟨f,vs,ks⟩=ks from rfl,e,nodes]
  simp only[List.length_cons,List.length_nil]
  omega
theorem keysL_size (T:Lib.PrintTabs):∀(l:List S30),SmL l→VOkL l→(keysL T l).length≤70000000*nodesL l
 | [],_,_=>Nat.zero_le _
 |t::r,hs,hv=>by
  rw[SmL]at hs
  rw[VOkL]at hv
  have h1:=keyL_size T t hs.1 hv.1
  have h2:=keysL_size T r hs.2 hv.2
  have e:keysL T (t::r)=keyL T t++keysL T r:=by unfold keysL;rw[List.flatMap_cons]
  rw[e,List.length_append,nodesL]
  omega
end
theorem keyP_size (T:Lib.PrintTabs) {t:S30} (hs:Sm t) (hv:VOk t) (hn:nodes t≤60):(keyP T t).size≤1099511627776:=by
 have h:=keyL_size T t hs hv
 have e:(keyL T t).length=(keyP T t).size:=Array.length_toList
 omega
theorem zero70v (w:World):(zeroValue 70).run Tryz.prog w= .ok (.agg #[.int .i64 0,.string ⟨#[]⟩,.slice none 0 0,.int .i64 0,.int .i64 0,.slice none 0 0,.int .i64 0,.int .i64 0,.bool false]) w:=by kernel_rfl
theorem underlying119:Tryz.prog.underlying 119=some (.map 9 70):=by kernel_rfl
section
variable {ops:Array Oper} {Q:Exit→Act→World→Prop} {R:Act→World→Prop} {RP:World→Prop} {i:Nat} {o:Oper} {J:Act→World→Prop} {a:Act} {w:World}
theorem op_box30 {k:Tmp} {t:S30} {A1 A2:Option Addr} {c1 c2:Nat} (hi:ops[i]? =some o) (hg:o.guard=none) (ho:o.op= .box 30 (.tmp k)) (ha:a.tmps[k]?.getD undef= .agg #[.string t.f0,.slice A1 t.f1.length c1,.slice A2 t.f2.length c2]) (h:∀w',w'.heap[w.heap.size]? =some (.cells #[.string t.f0,.slice A1 t.f1.length c1,.slice A2 t.f2.length c2] 30 (0,0))→Below w.heap.size w w' →w'.heap.size=w.heap.size+1→J (a.put o.dst (.pointer (some ⟨w.heap.size,0,none⟩))) w'):wpOp Tryz.prog ops Q i J a w:=by
 refine op_value hi (wanted_none hg) ?_ (h _ (blk_new w _) (below_alloc (Below.refl _ _) _) (by simp))
 unfold execOp
 rw[ho]
 go_simp
theorem op_key {k:Tmp} {ts:Array TypeId} {T:Lib.PrintTabs} {t:S30} {A1 A2:Option Addr} {c1 c2:Nat} (hi:ops[i]? =some o) (hg:o.guard=none) (ho:o.op= .call {callee:= .value (.func 99),args:= #[.tmp k],argTypes:=ts}) (ha:a.tmps[k]?.getD undef= .agg #[.string t.f0,.slice A1 t.f1.length c1,.slice A2 t.f2.length c2]) (hs:Sm t) (hv:VOk t) (hT:Tabs T w) (tv:TreeV w t A1 c1 A2 c2) (hk:(keyP T t).size≤1099511627776) (h:∀w',Below w.heap.size w w' →J (a.put o.dst (.string (keyP T t))) w'):wpOp Tryz.prog ops Q i J a w:=by
 refine op_call hi (wanted_none hg) ?_ ((key_calls T t hs hv w A1 c1 A2 c2 hT tv hk).mono ?_)
 ·have he:=enters_of Tryz.func99 (by kernel_rfl) rfl #[.agg #[.string t.f0,.slice A1 t.f1.length c1,.slice A2 t.f2.length c2]] w
  unfold execOp
  rw[ho]
  go_simp
 ·rintro e w' ⟨rfl,hb⟩
  exact ⟨_,rfl,h w' hb⟩
theorem op_nil {k:Tmp} {b:Nat} (hi:ops[i]? =some o) (hg:o.guard=none) (ho:o.op= .nilCheck (.tmp k)) (ha:a.tmps[k]?.getD undef= .pointer (some ⟨b,0,none⟩)) (h:J (a.put o.dst (.pointer (some ⟨b,0,none⟩))) w):wpOp Tryz.prog ops Q i J a w:=by
 refine op_value hi (wanted_none hg) (w' :=w) ?_ h
 unfold execOp
 rw[ho]
 go_simp
theorem op_faM {k:Tmp} {b:Nat} (hi:ops[i]? =some o) (hg:o.guard=none) (ho:o.op= .fieldAddr 121 (.tmp k) 1) (ha:a.tmps[k]?.getD undef= .pointer (some ⟨b,0,none⟩)) (h:J (a.put o.dst (.pointer (some ⟨b,3,none⟩))) w):wpOp Tryz.prog ops Q i J a w:=by
 refine op_value hi (wanted_none hg) (w' :=w) ?_ h
 unfold execOp
 rw[ho]
 go_simp
theorem op_ldM {k:Tmp} {b:Nat} {v:Value} (hi:ops[i]? =some o) (hg:o.guard=none) (ho:o.op= .load 119 (.tmp k)) (ha:a.tmps[k]?.getD undef= .pointer (some ⟨b,3,none⟩)) (hc:w.cell? ⟨b,3,none⟩=some v) (h:J (a.put o.dst v) w):wpOp Tryz.prog ops Q i J a w:=by
 refine op_value hi (wanted_none hg) (w' :=w) ?_ h
 unfold execOp
 rw[ho]
 go_simp
theorem op_look {k k2:Tmp} {mb:Nat} {x:ByteArray} {en:Ents} (hi:ops[i]? =some o) (hg:o.guard=none) (ho:o.op= .lookup 119 (.tmp k) (.tmp k2) true) (ha:a.tmps[k]?.getD undef= .map (some mb)) (ha2:a.tmps[k2]?.getD undef= .string x) (hM:MapE w mb en) (hx:x.size≤maxLen) (h:J (a.put o.dst (.tuple #[(entOf en x).getD (.agg #[.int .i64 0,.string ⟨#[]⟩,.slice none 0 0,.int .i64 0,.int .i64 0,.slice none 0 0,.int .i64 0,.int .i64 0,.bool false]),.bool (entOf en x).isSome])) w):wpOp Tryz.prog ops Q i J a w:=by
 have hl:=hM.look_ok underlying119 (zero70v w) x hx
 refine op_value hi (wanted_none hg) (w' :=w) ?_ h
 unfold execOp
 rw[ho]
 go_simp
theorem op_upd {k k2 k3:Tmp} {mb:Nat} {x:ByteArray} {v:Value} {en:Ents} (hi:ops[i]? =some o) (hg:o.guard=none) (hd:o.dst=none) (ho:o.op= .mapUpdate 119 (.tmp k) (.tmp k2) (.tmp k3)) (ha:a.tmps[k]?.getD undef= .map (some mb)) (ha2:a.tmps[k2]?.getD undef= .string x) (ha3:a.tmps[k3]?.getD undef=v) (hM:MapE w mb en) (hn:en.length<2 ^ 62) (hx:x.size≤maxLen) (h:∀w',MapE w' mb ((x,v)::en)→w.grownBy w' (some mb)→J a w'):wpOp Tryz.prog ops Q i J a w:=by
 obtain ⟨w',hrun,h1,h2⟩:=hM.store underlying119 hn x v hx
 have hput:a.put none undef=a:=rfl
 have hh:=h w' h1 h2
 refine wpOp_step hi (fun K hK=> ?_)
 have hk:=hK _ _ hh
 rw[if_pos (wanted_none hg)]
 unfold Oper.wp execOp
 rw[ho]
 go_simp
 exact hk
theorem op_notb {k:Tmp} {b:Bool} (hi:ops[i]? =some o) (hg:o.guard=none) (ho:o.op= .unOp .not 4 (.tmp k)) (ha:a.tmps[k]?.getD undef= .bool b) (h:J (a.put o.dst (.bool (!b))) w):wpOp Tryz.prog ops Q i J a w:=by
 refine op_value hi (wanted_none hg) (w' :=w) ?_ h
 unfold execOp
 rw[ho]
 go_simp
theorem op_s100 {k1 k2:Tmp} {ts:Array TypeId} {T:Lib.PrintTabs} {s:Sg} {n N L:Nat} {t:S30} {w0:World} {bp mb:Nat} {RR:Nat→Prop} {A1 A2:Option Addr} {c1 c2:Nat} (hi:ops[i]? =some o) (hg:o.guard=none) (ho:o.op= .call {callee:= .value (.func 100),args:= #[.tmp k1,.tmp k2],argTypes:=ts}) (h1:a.tmps[k1]?.getD undef= .pointer (some ⟨bp,0,none⟩)) (h2:a.tmps[k2]?.getD undef= .agg #[.string t.f0,.slice A1 t.f1.length c1,.slice A2 t.f2.length c2])
  (h100:SentC T s 100 n N) (ht:nodes t≤n) (h60:n≤60) (hf:formedP structL t cS=true) (hres:resP t=true) (hsm:Sm t) (hE:Env T s w0 w bp mb) (hI:∃en,MapInv T s w mb RR en∧en.length≤L) (tv:TreeV w t A1 c1 A2 c2) (hN:L+N<2 ^ 62) (had:a.defers=[]) (hp:sentP s n t=none→∀w',Kp w w' (fun k=>k=mb)→RP w') (hge:∀k,w.heap.size≤k→RR k)
  (h:∀v w',MnO w' RR (sentP s n t) v→Kp w w' (fun k=>k=mb)→(∃en,MapInv T s w' mb RR en∧en.length≤L+N)→J (a.put o.dst v) w'):wpOp Tryz.prog ops (OnNP R RP) i J a w:=by
 obtain ⟨en,hi',hlen⟩:=hI
 refine op_callP hi (wanted_none hg) ?_ ((h100 t ht h60 hf hres hsm w0 w bp mb RR en A1 c1 A2 c2 hE hi' tv (by omega)).mono ?_)
 ·have he:=enters_of Tryz.func100 (by kernel_rfl) rfl #[.pointer (some ⟨bp,0,none⟩),.agg #[.string t.f0,.slice A1 t.f1.length c1,.slice A2 t.f2.length c2]] w
  unfold execOp
  rw[ho]
  go_simp
 ·rintro e w' ⟨hk,hr⟩
  cases hq:sentP s n t with
  |none =>
   rw[hq]at hr
   exact .inr ⟨_,hr,rfl,had,hp hq w' hk⟩
  |some m =>
   rw[hq]at hr
   obtain ⟨v,rfl,hv,en',hm',hl'⟩:=hr
   exact .inl ⟨v,rfl,h v w' ⟨m,hq,hv.mono (fun k hk=>hk.elim id (hge k))⟩ hk ⟨en',hm'.mono (fun k hk=>hk.elim id (hge k)) hi'.nR,by omega⟩⟩
theorem op_st70z {k1 k2:Tmp} {g:Nat} (hi:ops[i]? =some o) (hg:o.guard=none) (hd:o.dst=none) (ho:o.op= .store 70 (.tmp k1) (.tmp k2)) (h1:a.tmps[k1]?.getD undef= .pointer (some ⟨g,0,none⟩)) (h2:a.tmps[k2]?.getD undef= .agg #[.int .i64 0,.string ⟨#[]⟩,.slice none 0 0,.int .i64 0,.int .i64 0,.slice none 0 0,.int .i64 0,.int .i64 0,.bool false]) (hz:Nine w g)
  (h:∀w',Nine w' g→Kp w w' (fun k=>k=g)→J a w'):wpOp Tryz.prog ops Q i J a w :=
 op_st70G (ok:=fun _=>False) (r:=some ⟨⟨0,⟨#[]⟩,[],0,0,[]⟩,0,0,false⟩) hi hg hd ho h1 h2 hz ⟨_,rfl,none,0,none,0,rfl,Nat.le_refl _,fun _ _=>Kd.C_nil _ _,Nat.le_refl _,fun _ _=>Kd.C_nil _ _⟩ (fun _ h=>h.elim) fun m w' _ hm hk _=>h w' hm.nine hk
end
theorem Env.tabs_ {T:Lib.PrintTabs} {s:Sg} {w0 w:World} {bp mb:Nat} (h:Env T s w0 w bp mb):Tabs T w:=h.tabs.below h.h0
theorem Env.kp2 {T:Lib.PrintTabs} {s:Sg} {w0 w w1:World} {bp mb g:Nat} (h:Env T s w0 w bp mb) (hk:Kp w w1 (fun k=>k=g)) (hg:w0.heap.size≤g) (hb:bp≠g):Env T s w0 w1 bp mb:=⟨h.h0.trans (hk.toBelow h.h0.size (fun k hk=>by rw[hk];exact hg)),h.tabs,h.sig,h.nam,hk.blk h.blk hb,h.ge,h.ar⟩
theorem op_ld70v {ops:Array Oper} {Q:Exit→Act→World→Prop} {i:Nat} {o:Oper} {J:Act→World→Prop} {a:Act} {w:World} {k:Tmp} {g:Nat} {m:S70} {A2 A5:Option Addr} {c2 c5:Nat} (hi:ops[i]? =some o) (hg:o.guard=none) (ho:o.op= .load 70 (.tmp k)) (ha:a.tmps[k]?.getD undef= .pointer (some ⟨g,0,none⟩)) (hb:w.heap[g]? =some (.cells #[.int .i64 m.f0.f0,.string m.f0.f1,.slice A2 m.f0.f2.length c2,.int .i64 m.f0.f3,.int .i64 m.f0.f4,.slice A5 m.f0.f5.length c5,.int .i64 m.f1,.int .i64 m.f2,.bool m.f3] 70 (0,0))) (h:J (a.put o.dst (mnW m A2 c2 A5 c5)) w):wpOp Tryz.prog ops Q i J a w:=by
 have c0_:=blk_cell hb 0
 have c1_:=blk_cell hb 1
 have c2_:=blk_cell hb 2
 have c3_:=blk_cell hb 3
 have c4_:=blk_cell hb 4
 have c5_:=blk_cell hb 5
 have c6_:=blk_cell hb 6
 have c7_:=blk_cell hb 7
 have c8_:=blk_cell hb 8
 simp at c0_ c1_ c2_ c3_ c4_ c5_ c6_ c7_ c8_
 unfold mnW at h
 refine op_value hi (wanted_none hg) (w' :=w) ?_ h
 unfold execOp
 rw[ho]
 go_simp
def Ok56 (R:Nat→Prop) (w:World) (gb k:Nat):Prop:=(R k∧k<w.heap.size)∨(w.heap.size+2≤k∧k≠gb)
def St56 (T:Lib.PrintTabs) (s:Sg) (w0 w:World) (bp mb:Nat) (R:Nat→Prop) (t:S30) (A1:Option Addr) (c1:Nat) (A2:Option Addr) (c2:Nat) (L:Nat) (b c:Bool) (r:Option S70) (a:Act) (V:World):Prop:=∃g gb,a=frN 31 g∧g 0= .pointer (some ⟨bp,0,none⟩)∧g 3= .pointer (some ⟨w.heap.size,0,none⟩)∧g 4= .pointer (some ⟨(w.heap.size+1),0,none⟩)∧g 5= .string (keyP T t)∧g 6= .pointer (some ⟨gb,0,none⟩)∧g 7= .bool b∧w.heap.size+2≤gb∧Env T s w0 V bp mb∧Kp w V (fun k=>k=mb)∧V.heap[w.heap.size]? =some (.cells #[.string t.f0,.slice A1 t.f1.length c1,.slice A2 t.f2.length c2] 30 (0,0))∧Nine V (w.heap.size+1)∧Nine V gb∧(∃en,MapInv T s V mb (Ok56 R w gb) en∧en.length≤L)∧(c=true→∃m,r=some m∧MnAtG V gb (Ok56 R w gb) m)
set_option maxHeartbeats 2000000 in
set_option maxRecDepth 100000 in
theorem sent_step (T:Lib.PrintTabs) (s:Sg) (n N:Nat) (h100:SentC T s 100 n N):SentC T s 56 n (N+1):=by
 intro t hn h60 hf hres hsm w0 w bp mb R en A1 c1 A2 c2 hE hM tv hN
 have hvo:=formed_vals t cS hf
 have hks:=keyP_size T hsm hvo (Nat.le_trans hn h60)
 have hkl:(keyP T t).size≤maxLen:=by unfold maxLen;omega
 have hmb:=hM.lt
 have hbp:=blk_lt hE.blk
 have hw0:=hE.h0.size
 refine calls_frN 31 (fun j=>match j with | 0=> .pointer (some ⟨bp,0,none⟩) | 1=> .agg #[.string t.f0,.slice A1 t.f1.length c1,.slice A2 t.f2.length c2] | _=>undef) Tryz.func56 (show Tryz.f56.body=some _ from rfl) (by kernel_rfl) ?_
 refine wp_seq (wp_region_list (list_op (i:=0) rfl (op_box30 rfl rfl rfl rfl fun w1 xt hb1 hs1=>fop rfl (by decide) (list_op (i:=1) rfl (op_new70 rfl rfl rfl fun W2 xr hb2=>fop rfl (by decide) ?_)))))
 rw[hs1]at xr ⊢
 replace xt:=blk_below xt hb2
 have hB2:=below_step hb1 hb2
 refine wp_seq (wp_region_list (list_op (i:=0) rfl (op_ldT rfl rfl rfl rfl (blk_cell xt 0) (blk_cell xt 1) (blk_cell xt 2) (fop rfl (by decide) (list_op (i:=1) rfl (op_key (T:=T) rfl rfl rfl rfl hsm hvo (hE.below hB2).tabs_ (tv.below hB2) hks fun w3 hb3=>fop rfl (by decide) (list_op (i:=2) rfl (op_asg rfl rfl rfl rfl (fop rfl (by decide) ?_)))))))))
 replace xt:=blk_below xt hb3
 replace xr:=Nine.zero (blk_below xr hb3)
 have hB3:=below_step hB2 hb3
 have hlt:=xr.lt
 refine wp_seq (wp_onNP (fun a' V=>∃b,St56 T s w0 w bp mb R t A1 c1 A2 c2 en.length b b (sentP s n t) a' V) (fun _=>False) (wp_region_list (list_op (i:=0) rfl (op_mv rfl rfl rfl rfl (fop rfl (by decide) (list_op (i:=1) rfl (op_nil rfl rfl rfl rfl (fop rfl (by decide) (list_op (i:=2) rfl (op_faM rfl rfl rfl rfl (fop rfl (by decide) (list_op (i:=3) rfl (op_ldM rfl rfl rfl rfl (blk_cell (hE.below hB3).blk 3) (fop rfl (by decide) (list_op (i:=4) rfl (op_mv rfl rfl rfl rfl (fop rfl (by decide) (list_op (i:=5) rfl (op_look (en:=en) rfl rfl rfl rfl rfl (hM.map.below hB3) hkl (fop rfl (by decide) (list_op (i:=6) rfl (op_mv rfl rfl rfl rfl (fop rfl (by decide) ?_)))))))))))))))))))))) ?_ (fun _ _ _ h=>h.elim))
 ·have fin:∀{V w4:World} {c:Bool} {g:Nat→Value} (hb4:Below w3.heap.size w3 w4) (hz4:w4.heap[w3.heap.size]? =some zeroMn) (hk:Kp w4 V (fun k=>k=w3.heap.size)) (hn:Nine V w3.heap.size) (g0:g 0= .pointer (some ⟨bp,0,none⟩)) (g3:g 3= .pointer (some ⟨w.heap.size,0,none⟩)) (g4:g 4= .pointer (some ⟨(w.heap.size+1),0,none⟩)) (g5:g 5= .string (keyP T t)) (g6:g 6= .pointer (some ⟨w3.heap.size,0,none⟩)) (g7:g 7= .bool c) (hm:c=true→∃m,sentP s n t=some m∧MnAtG V w3.heap.size (Ok56 R w w3.heap.size) m),St56 T s w0 w bp mb R t A1 c1 A2 c2 en.length c c (sentP s n t) (frN 31 g) V:=by
   intro V w4 c g hb4 hz4 hk hn g0 g3 g4 g5 g6 g7 hm
   have hB:Below w.heap.size w V:=(below_step hB3 hb4).trans (hk.toBelow_ (by omega) (blk_lt hz4))
   exact ⟨g,w3.heap.size,rfl,g0,g3,g4,g5,g6,g7,by omega,hE.below hB,Kp.of_below hB _,hk.blk (blk_below xt hb4) (by omega),(xr.below hb4).kp hk (by omega),hn,⟨en,(hM.bound.below hB).mono (fun k h=> .inl h) (fun h=>h.elim (fun h=>hM.nR h.1) (fun h=>by omega)),Nat.le_refl _⟩,hm⟩
  cases hen:entOf en (keyP T t)with
  |none =>
   refine (list_op (i:=7) rfl (op_ext rfl rfl rfl rfl rfl (fop rfl (by decide) (list_op (i:=8) rfl (op_ext rfl rfl rfl rfl rfl (fop rfl (by decide) (list_op (i:=9) rfl (op_new70 rfl rfl rfl fun w4 hz4 hb4=>fop rfl (by decide) (list_op (i:=10) rfl (op_st70z rfl rfl rfl rfl rfl rfl (Nine.zero hz4) fun w5 hn5 hk5=>(list_op (i:=11) rfl (op_asg rfl rfl rfl rfl (fop rfl (by decide) ?_)))))))))))))
   exact ⟨false,fin hb4 hz4 hk5 hn5 rfl rfl rfl rfl rfl rfl (fun h=>by cases h)⟩
  |some v =>
   obtain ⟨m0,hsp,hmv⟩:=((hM.bound.below hB3).found hE.nam hf hn hen)
   refine (list_op (i:=7) rfl (op_ext rfl rfl rfl rfl rfl (fop rfl (by decide) (list_op (i:=8) rfl (op_ext rfl rfl rfl rfl rfl (fop rfl (by decide) (list_op (i:=9) rfl (op_new70 rfl rfl rfl fun w4 hz4 hb4=>fop rfl (by decide) (list_op (i:=10) rfl (op_st70G (ok:=fun k=>R k∧k<w.heap.size) (r:=some m0) rfl rfl rfl rfl rfl rfl (Nine.zero hz4) ⟨m0,rfl,hmv.below hb4⟩ (fun k hk=>by omega) fun m w5 e hm5 hk5 hs5=>(list_op (i:=11) rfl (op_asg rfl rfl rfl rfl (fop rfl (by decide) ?_)))))))))))))
   refine ⟨true,fin hb4 hz4 hk5 hm5.nine rfl rfl rfl rfl rfl rfl (fun _=>⟨m,by rw[hsp];exact e,?_⟩)⟩
   obtain ⟨A2',c2',A5',c5',h1,h2⟩:=hm5
   exact ⟨A2',c2',A5',c5',h1,h2.mono (fun k hk=> .inl hk)⟩
 ·rintro a' V ⟨b,g,gb,rfl,g0,g3,g4,g5,g6,g7,hgb,hE',hk,xt,hrn,hgn,⟨en1,hM1,hl1⟩,hm⟩
  have hgo:∀k,Ok56 R w gb k→k≠gb:=fun k h=>by rcases h with h | h<;>omega
  refine wp_seq (wp_onNP (fun a' V=>∃b,St56 T s w0 w bp mb R t A1 c1 A2 c2 (en.length+(N+1)) b true (sentP s n t) a' V) (fun w' =>sentP s n t=none∧Kp w w' (fun k=>k=mb)) (wp_seq (wp_region_list (list_op (i:=0) rfl (op_mv rfl rfl rfl g7 (fop rfl (by decide) (list_op (i:=1) rfl (op_notb (b:=b) rfl rfl rfl rfl (fop rfl (by decide) (wp_cond (t:= !b) rfl ?_))))))))) ?_ ?_)
  ·cases b with
   |true=>exact wp_skip ⟨true,_,gb,rfl,g0,g3,g4,g5,g6,g7,hgb,hE',hk,xt,hrn,hgn,⟨en1,hM1,by omega⟩,hm⟩
   |false =>
    refine wp_seq (wp_onNP (fun a' V=>St56 T s w0 w bp mb R t A1 c1 A2 c2 (en.length+N) false true (sentP s n t) a' V) (fun w' =>sentP s n t=none∧Kp w w' (fun k=>k=mb)) (wp_region_list (list_op (i:=0) rfl (op_mv rfl rfl rfl g0 (fop rfl (by decide) (list_op (i:=1) rfl (op_ldT rfl rfl rfl g3 (blk_cell xt 0) (blk_cell xt 1) (blk_cell xt 2) (fop rfl (by decide) (list_op (i:=2) rfl (op_s100 rfl rfl rfl rfl rfl h100 hn h60 hf hres hsm hE' ⟨en1,hM1,hl1⟩ (tv.cells (hk.cells hM.map)) (by omega) rfl (fun e w' h=>⟨e,hk.then_ h (fun k h=> .inl h)⟩) (fun k hk9=> .inr (by have h1:=hgn.lt;have h2:=hrn.lt;omega)) fun u V1 hu hk1 hI1=>fop rfl (by decide) (list_op (i:=3) rfl (op_st70G rfl rfl rfl rfl g6 rfl (hgn.kp hk1 (by omega)) hu (fun k hk9=>hgo k hk9) fun m V2 e hm2 hk2 hs2=> ?_))))))))))) ?_ (fun a' w' hd h=>⟨rfl,hd,h⟩))
    ·obtain ⟨en2,hi2,hl2⟩:=hI1
     have hg1:=hgn.kp hk1 (by omega)
     exact ⟨_,gb,rfl,g0,g3,g4,g5,g6,g7,hgb,(hE'.kp hM1.map hk1).kp2 hk2 (by omega) (by omega),(hk.then_ hk1 (fun k h=> .inl h)).then_ hk2 (fun k h=> .inr (by omega)),hk2.blk (hk1.blk xt (by omega)) (by omega),(hrn.kp hk1 (by omega)).kp hk2 (by omega),hm2.nine,⟨en2,hi2.step (fun k h hlt=>hk2.block k hlt (by rcases h with h | h;exact hgo k h;omega)),by omega⟩,fun _=>⟨m,e,hm2⟩⟩
    ·clear g0 g3 g4 g5 g6 g7 hgb hE' hk xt hrn hgn hM1 hl1 hm en1 hgo gb g V
     rintro a' V ⟨g,gb,rfl,g0,g3,g4,g5,g6,g7,hgb,hE',hk,xt,hrn,hgn,⟨en1,hM1,hl1⟩,hm⟩
     have hgo:∀k,Ok56 R w gb k→k≠gb:=fun k h=>by rcases h with h | h<;>omega
     obtain ⟨m,em,B2,d2,B5,d5,hb,hv⟩:=hm rfl
     have bw:∀{V'},Below V.drew.heap.size V.drew V' →Below V.heap.size V V' :=fun hB=>below_step (below_drew (Below.refl _ _)) hB
     refine region_kn 6 31 [.is (.pointer (some ⟨bp,0,none⟩)),.is (.pointer (some ⟨bp,0,none⟩)),.is (.pointer (some ⟨bp,3,none⟩)),.is (.map (some mb)),.is (.string (keyP T t)),.is (mnW m B2 d2 B5 d5)] [24,25,26,27,28,29,999] g V rfl (by kernel_rfl) (by kernel_rfl) (by kernel_rfl) ⟨
      fun q V' J hB hq h hi=>op_mv hi rfl rfl g0 (h _ _ rfl (.refl _ _)),
      fun q V' J hB hq h hi=>op_nil hi rfl rfl (hq 0 rfl) (h _ _ rfl (.refl _ _)),
      fun q V' J hB hq h hi=>op_faM hi rfl rfl (hq 1 rfl) (h _ _ rfl (.refl _ _)),
      fun q V' J hB hq h hi=>op_ldM hi rfl rfl (hq 2 rfl) (blk_cell (hE'.below (bw hB)).blk 3) (h _ _ rfl (.refl _ _)),
      fun q V' J hB hq h hi=>op_mv hi rfl rfl g5 (h _ _ rfl (.refl _ _)),
      fun q V' J hB hq h hi=>op_ld70v hi rfl rfl g6 (blk_below hb (bw hB)) (h _ _ rfl (.refl _ _)),trivial⟩ ?_
     intro o q V' hi hB hx2
     injection hi with hi2
     subst hi2
     have hM2:=hM1.below (bw hB)
     refine op_upd rfl rfl rfl rfl (hx2 3 (by decide)) (hx2 4 (by decide)) (hx2 5 (by decide)) hM2.map (by omega) hkl fun w' hm' hg' => ?_
     have hk3:=Kp.of_grown hg'
     have hne:∀{k},k≠mb→¬some mb=some k:=fun h e=>h (Option.some.inj e).symm
     have hk4:Kp V w' (fun k=>k=mb):=(Kp.of_below (bw hB) _).then_ hk3 (fun k h=> .inl (Option.some.inj h).symm)
     have hst:∀k,Ok56 R w gb k→k<V.heap.size→w'.heap[k]? =V.heap[k]? :=fun k h hlt=>hk4.block k hlt (fun e=>hM1.nR (e▸h))
     have hv' :=hv.step hst
     exact ⟨false,_,gb,rfl,g0,g3,g4,g5,g6,g7,hgb,hE'.kp hM1.map hk4,hk.then_ hk4 (fun k h=> .inl h),hk4.blk xt (by omega),hrn.kp hk4 (by omega),hgn.kp hk4 (by omega),⟨_,⟨hm',fun x v hx=>by
      rw[entOf]at hx
      by_cases he:(keyP T t).data.toList=x.data.toList
      ·rw[if_pos he]at hx
       injection hx with hx
       subst hx
       exact ba_ext he▸(show EntOk T s w' _ (keyP T t) _ from ⟨t,m,n,em,hn,hf,hres,rfl,hv'⟩)
      ·rw[if_neg he]at hx
       exact (hM1.ok x v hx).step hst,hM1.nR⟩,by rw[List.length_cons];omega⟩,fun _=>⟨m,em,B2,d2,B5,d5,hk4.blk hb (by omega),hv'⟩⟩
  ·clear g0 g3 g4 g5 g6 g7 hgb hE' hk xt hrn hgn hM1 hl1 hm en1 hgo gb g V b
   rintro a' V ⟨b,g,gb,rfl,g0,g3,g4,g5,g6,g7,hgb,hE',hk,xt,hrn,hgn,⟨en1,hM1,hl1⟩,hm⟩
   obtain ⟨m,em,hm⟩:=hm rfl
   refine wp_seq (wp_region_list (list_op (i:=0) rfl (op_ld70 rfl rfl rfl g6 hm fun u hu=>fop rfl (by decide) (list_op (i:=1) rfl (op_st70G (ok:=Ok56 R w gb) rfl rfl rfl rfl g4 rfl hrn ⟨m,rfl,hu⟩ (fun k hk9=>by rcases hk9 with hk9 | hk9;have:=hk9.2;omega;omega) fun m2 V1 e2 hm2 hk2 hs2=> ?_)))))
   obtain rfl:=Option.some.inj e2
   exact wp_ret (SentAt.end_ (show Tryz.f56.results= #[.cell 4 70]from rfl) g4 rfl (SentAt.of_store hk (Nat.le_succ _) hmb (fun k h=>by rcases h with h | h;exact ⟨by omega,.inl h.1⟩;exact ⟨by omega,.inr (by omega)⟩) hM.nR ⟨en1,hM1,hl1⟩ em hm2 hk2))
  ·rintro a' w' hd ⟨e,hk9⟩
   refine ⟨hd,?_⟩
   rw[e]
   exact SentRet.no hk9
end
section
attribute [local go_sem] Oper.semAt_some
theorem frN_at {n k:Nat} {g:Nat→Value} (h:k<n):(frN n g).tmps[k]?.getD undef=g k:=by
 unfold frN
 simp[h]
section
variable {ops:Array Oper} {Q:Exit→Act→World→Prop} {R:Act→World→Prop} {RP:World→Prop} {i:Nat} {o:Oper} {J:Act→World→Prop} {a:Act} {w:World}
theorem op_box73 {k:Tmp} {b:Nat} (hi:ops[i]? =some o) (hg:o.guard=none) (ho:o.op= .box 73 (.tmp k)) (ha:a.tmps[k]?.getD undef= .pointer (some ⟨b,0,none⟩)) (h:∀w',BoxAt w' w.heap.size 73 (.pointer (some ⟨b,0,none⟩))→Below w.heap.size w w' →w'.heap.size=w.heap.size+1→J (a.put o.dst (.pointer (some ⟨w.heap.size,0,none⟩))) w'):wpOp Tryz.prog ops Q i J a w:=by
 refine op_value hi (wanted_none hg) (w' :=w.alloc (.cells #[.pointer (some ⟨b,0,none⟩)] 73)) ?_ (h _ (blk_new w _) (below_alloc (Below.refl _ _) _) (by simp))
 unfold execOp
 rw[ho]
 go_simp
theorem op_mf2 {g:FuncId} {k1 k2:Tmp} {v1 v2:Value} (hi:ops[i]? =some o) (hg:o.guard=none) (ho:o.op= .makeFunc (.func g) #[] #[.tmp k1,.tmp k2]) (h1:a.tmps[k1]?.getD undef=v1) (h2:a.tmps[k2]?.getD undef=v2) (h:J (a.put o.dst (.func (.func g) #[] #[v1,v2])) w):wpOp Tryz.prog ops Q i J a w:=by
 refine op_value hi (wanted_none hg) (w' :=w) ?_ h
 unfold execOp
 rw[ho]
 go_simp
theorem op_fa0 {k:Tmp} {b:Nat} (hi:ops[i]? =some o) (hg:o.guard=none) (ho:o.op= .fieldAddr 30 (.tmp k) 0) (ha:a.tmps[k]?.getD undef= .pointer (some ⟨b,0,none⟩)) (h:J (a.put o.dst (.pointer (some ⟨b,0,none⟩))) w):wpOp Tryz.prog ops Q i J a w:=by
 refine op_value hi (wanted_none hg) (w' :=w) ?_ h
 unfold execOp
 rw[ho]
 go_simp
theorem op_fa1 {k:Tmp} {b:Nat} (hi:ops[i]? =some o) (hg:o.guard=none) (ho:o.op= .fieldAddr 30 (.tmp k) 1) (ha:a.tmps[k]?.getD undef= .pointer (some ⟨b,0,none⟩)) (h:J (a.put o.dst (.pointer (some ⟨b,1,none⟩))) w):wpOp Tryz.prog ops Q i J a w:=by
 refine op_value hi (wanted_none hg) (w' :=w) ?_ h
 unfold execOp
 rw[ho]
 go_simp
theorem op_ld9 {k:Tmp} {b:Nat} {v:Value} (hi:ops[i]? =some o) (hg:o.guard=none) (ho:o.op= .load 9 (.tmp k)) (ha:a.tmps[k]?.getD undef= .pointer (some ⟨b,0,none⟩)) (hc:w.cell? ⟨b,0,none⟩=some v) (h:J (a.put o.dst v) w):wpOp Tryz.prog ops Q i J a w:=by
 refine op_value hi (wanted_none hg) (w' :=w) ?_ h
 unfold execOp
 rw[ho]
 go_simp
theorem op_ld27 {k:Tmp} {b:Nat} {v:Value} (hi:ops[i]? =some o) (hg:o.guard=none) (ho:o.op= .load 27 (.tmp k)) (ha:a.tmps[k]?.getD undef= .pointer (some ⟨b,1,none⟩)) (hc:w.cell? ⟨b,1,none⟩=some v) (h:J (a.put o.dst v) w):wpOp Tryz.prog ops Q i J a w:=by
 refine op_value hi (wanted_none hg) (w' :=w) ?_ h
 unfold execOp
 rw[ho]
 go_simp
theorem op_ix27 {k:Tmp} {ad:Addr} {n c:Nat} {j:Int} (hi:ops[i]? =some o) (hg:o.guard=none) (ho:o.op= .indexAddr 27 (.tmp k) (.const (.int .i64 j))) (h0:(0≤j)=True) (h1:(j<n)=True) (ha:a.tmps[k]?.getD undef= .slice (some ad) n c) (h:J (a.put o.dst (.pointer (some (ad.add j.toNat)))) w):wpOp Tryz.prog ops Q i J a w:=by
 refine op_value hi (wanted_none hg) (w' :=w) ?_ h
 unfold execOp
 rw[ho]
 go_simp
theorem op_ld3c {k:Tmp} {ad:Addr} {v:Value} (hi:ops[i]? =some o) (hg:o.guard=none) (ho:o.op= .load 3 (.tmp k)) (ha:a.tmps[k]?.getD undef= .pointer (some ad)) (hc:w.cell? ad=some v) (h:J (a.put o.dst v) w):wpOp Tryz.prog ops Q i J a w:=by
 refine op_value hi (wanted_none hg) (w' :=w) ?_ h
 unfold execOp
 rw[ho]
 go_simp
theorem op_eqS {k:Tmp} {x s:ByteArray} (hi:ops[i]? =some o) (hg:o.guard=none) (ho:o.op= .binOp .eql 9 (.tmp k) (.const (.string s)) 9) (ha:a.tmps[k]?.getD undef= .string x) (h:J (a.put o.dst (.bool (x.toList == s.toList))) w):wpOp Tryz.prog ops Q i J a w:=by
 refine op_value hi (wanted_none hg) (w' :=w) ?_ h
 unfold execOp
 rw[ho]
 go_simp
theorem op_fvS {k:Tmp} {ts:Array TypeId} {xs:Array Operand} {vs cap:Array Value} {f:FuncId} {T:Lib.PrintTabs} {s:Sg} {mb L:Nat} {RR:Nat→Prop} {r:Option S70} (hi:ops[i]? =some o) (hg:o.guard=none) (ho:o.op= .call {callee:= .value (.tmp k),args:=xs,argTypes:=ts}) (h0:a.tmps[k]?.getD undef= .func (.func f) #[] cap) (hx:xs.map a.eval=vs) (hen:Enters Tryz.prog f) (hc:Calls Tryz.prog f (vs++cap) w (SentRet T s w mb RR L r)) (had:a.defers=[]) (hp:r=none→∀w',Kp w w' (fun k=>k=mb)→RP w') (hge:∀k,w.heap.size≤k→RR k) (hnR:¬RR mb)
  (h:∀v w',MnO w' RR r v→Kp w w' (fun k=>k=mb)→(∃en,MapInv T s w' mb RR en∧en.length≤L)→J (a.put o.dst v) w'):wpOp Tryz.prog ops (OnNP R RP) i J a w:=by
 refine op_callP hi (wanted_none hg) ?_ (hc.mono ?_)
 ·have he:=hen (vs++cap) w
  subst hx
  unfold execOp
  rw[ho]
  simp[go_sem,resolve,Deferred.ofValue,invoke,h0,he]
 ·rintro e w' ⟨hk,hr⟩
  cases r with
  |none=>exact .inr ⟨_,hr,rfl,had,hp rfl w' hk⟩
  |some m =>
   obtain ⟨v,rfl,hv,en',hm',hl'⟩:=hr
   exact .inl ⟨v,rfl,h v w' ⟨m,rfl,hv.mono (fun k hk=>hk.elim id (hge k))⟩ hk ⟨en',hm'.mono (fun k hk=>hk.elim id (hge k)) hnR,hl'⟩⟩
end
theorem SentRet.of_post {T:Lib.PrintTabs} {s:Sg} {w w' :World} {mb:Nat} {R:Nat→Prop} {en:Ents} {r:Option S70} {e:Ending} (hM:MapInv T s w mb R en) (h:PostM w r e w'):SentRet T s w mb R en.length r e w' :=by
 obtain ⟨hB,h⟩:=h
 cases r with
 |none =>
  obtain rfl:=h
  exact SentRet.no (Kp.of_below hB _)
 |some m =>
  obtain ⟨v,rfl,hv⟩:=h
  exact SentRet.yes (Kp.of_below hB _) (hv.mono (fun k hk=> .inr hk)) ((hM.below hB).mono (fun k hk=> .inl hk) (fun h=>h.elim hM.nR (fun h=>absurd hM.lt (by omega)))) (Nat.le_refl _)
theorem wp_sw {id:Nat} {o0 o1:Oper} {k1 k2:Nat} {s x:ByteArray} {A B:Code} {Q:Exit→Act→World→Prop} {g:Nat→Value} {w:World} (b:Bool) (ho0:o0.op= .binOp .eql 9 (.tmp 14) (.const (.string s)) 9) (hd0:o0.dst=some k1) (hg0:o0.guard=none) (ho1:o1.op= .assign (.tmp k1)) (hd1:o1.dst=some k2) (hg1:o1.guard=none) (h1:15≤k1∧k1<104) (h2:15≤k2∧k2<104) (hx:g 14= .string x) (hb:(x.toList == s.toList)=b) (h:∀g',(∀j,j<15→g' j=g j)→(if b then A else B).wp Tryz.prog Q (frN 104 g') w) :
  (Code.seq (.region id #[o0,o1] false) (.cond (.tmp k2) A B)).wp Tryz.prog Q (frN 104 g) w:=by
 refine wp_seq (wp_region_list (list_op (i:=0) rfl (op_eqS (x:=x) (s:=s) rfl hg0 ho0 hx (fop hd0 h1.2 (list_op (i:=1) rfl (op_asg rfl hg1 ho1 (frN_at h1.2) (fop hd1 h2.2 (wp_cond (t:=b) ?_ (h _ ?_)))))))))
 ·simp only[Act.eval,Array.getD_eq_getD_getElem?]
  rw[frN_at h2.2]
  unfold upd
  rw[if_pos rfl,if_pos rfl,hb]
 ·intro j hj
  unfold upd
  rw[if_neg (by omega),if_neg (by omega)]
theorem seq_fin {C:Code} {Q:Exit→Act→World→Prop} {T:Lib.PrintTabs} {s:Sg} {w:World} {mb L:Nat} {R:Nat→Prop} {r:Option S70} {a:Act} {V:World} (hQ:∀a' V',a'.tmps.getD 4 undef= .pointer (some ⟨(w.heap.size+2),0,none⟩)→a'.defers=[]→SentAt T s w mb R L r (w.heap.size+2) V' →Q .ret a' V') (hP:∀a' V',a'.defers=[]→r=none→Kp w V' (fun k=>k=mb)→Q (.panic failV) a' V')
  (h:C.wp Tryz.prog (OnNP (fun a' V' =>a'.tmps.getD 4 undef= .pointer (some ⟨(w.heap.size+2),0,none⟩)∧a'.defers=[]∧SentAt T s w mb R L r (w.heap.size+2) V') (fun V' =>r=none∧Kp w V' (fun k=>k=mb))) a V):(C.seq .ret).wp Tryz.prog Q a V :=
 wp_seq (wp_onNP _ _ h (fun a' V' h=>wp_ret (hQ a' V' h.1 h.2.1 h.2.2)) (fun a' V' hd h=>hP a' V' hd h.1 h.2))
structure K100 (w:World) (t:S30) (g:Nat→Value):Prop where
 f2:g 2= .pointer (some ⟨w.heap.size,0,none⟩)
 f3:g 3= .pointer (some ⟨(w.heap.size+1),0,none⟩)
 f4:g 4= .pointer (some ⟨(w.heap.size+2),0,none⟩)
 f5:g 5= .func (.func 144) #[] #[.pointer (some ⟨w.heap.size,0,none⟩),.pointer (some ⟨(w.heap.size+1),0,none⟩)]
 f6:g 6= .func (.func 147) #[] #[.pointer (some ⟨w.heap.size,0,none⟩),.pointer (some ⟨(w.heap.size+1),0,none⟩)]
 f7:g 7= .func (.func 148) #[] #[.pointer (some ⟨w.heap.size,0,none⟩),.pointer (some ⟨(w.heap.size+1),0,none⟩)]
 f14:g 14= .string t.f0
theorem K100.eq {w:World} {t:S30} {g g' :Nat→Value} (h:K100 w t g) (e:∀j,j<15→g' j=g j):K100 w t g' :=
 ⟨(e 2 (by decide)).trans h.f2,(e 3 (by decide)).trans h.f3,(e 4 (by decide)).trans h.f4,(e 5 (by decide)).trans h.f5,(e 6 (by decide)).trans h.f6,(e 7 (by decide)).trans h.f7,(e 14 (by decide)).trans h.f14⟩
structure E100 (T:Lib.PrintTabs) (s:Sg) (w0 w W2:World) (bp mb:Nat) (R:Nat→Prop) (en:Ents) (t:S30) (A1:Option Addr) (c1:Nat) (A2:Option Addr) (c2:Nat):Prop where
 env:Env T s w0 W2 bp mb
 map:MapInv T s W2 mb (fun k=>R k∧k<w.heap.size) en
 box:BoxAt W2 w.heap.size 73 (.pointer (some ⟨bp,0,none⟩))
 tree:TreeAt W2 (w.heap.size+1) t A1 c1 A2 c2
 res:W2.heap[w.heap.size+2]? =some zeroMn
 low:Below w.heap.size w W2
 sz:w.heap.size+3≤W2.heap.size
 mlt:mb<w.heap.size
 nR:¬R mb
section
variable {T:Lib.PrintTabs} {s:Sg} {w0 w W2 V:World} {bp mb:Nat} {R:Nat→Prop} {en:Ents} {t:S30} {A1:Option Addr} {c1:Nat} {A2:Option Addr} {c2:Nat} (E:E100 T s w0 w W2 bp mb R en t A1 c1 A2 c2)
include E
theorem E100.mapQ:MapInv T s W2 mb (fun k=>(R k∧k<w.heap.size)∨W2.heap.size≤k) en:=E.map.mono (fun k h=> .inl h) (fun h=>h.elim (fun h=>E.nR h.1) (fun h=>by have:=E.mlt;have:=E.sz;omega))
theorem E100.below (hB:Below W2.heap.size W2 V):E100 T s w0 w V bp mb R en t A1 c1 A2 c2:=⟨E.env.below hB,E.map.below hB,E.box.below hB,E.tree.below hB,blk_below E.res hB,below_step E.low hB,Nat.le_trans E.sz hB.size,E.mlt,E.nR⟩
theorem E100.cC (hK:Kp W2 V (fun k=>k=mb)):∀a v,W2.cell? a=some v→V.cell? a=some v:=hK.cells E.map.map
theorem E100.cK (hK:Kp W2 V (fun k=>k=mb)) {g:Nat} {cs:Array Value} {e:TypeId} {fr:Nat×Nat} (h:W2.heap[g]? =some (.cells cs e fr)):V.heap[g]? =some (.cells cs e fr):=hK.blk_ E.map.map h
theorem E100.kp (hK:Kp W2 V (fun k=>k=mb)):Kp w V (fun k=>k=mb):=(Kp.of_below E.low _).then_ hK (fun k h=> .inl h)
theorem E100.st {V1 V2:World} {L:Nat} {r:Option S70} {m:S70} (hK:Kp W2 V1 (fun k=>k=mb)) (hI:∃en,MapInv T s V1 mb (fun k=>(R k∧k<w.heap.size)∨W2.heap.size≤k) en∧en.length≤L) (e:r=some m) (hm:MnAtG V2 (w.heap.size+2) (fun k=>(R k∧k<w.heap.size)∨W2.heap.size≤k) m) (hs:Kp V1 V2 (fun k=>k=w.heap.size+2)):SentAt T s w mb R L r (w.heap.size+2) V2 :=
 SentAt.of_store (E.kp hK) (by omega) E.mlt (fun k hk=>by have:=E.sz;rcases hk with hk | hk;exact ⟨by omega,.inl hk.1⟩;exact ⟨by omega,.inr (by omega)⟩) E.nR hI e hm hs
end
end
end Go.Proofs.YtcfjomnihhdpaaaGreatDoor.A
