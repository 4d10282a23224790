/-
  A part of the proof: Q33, Q35, Q37, Q40, Q36, Q42.
-/
import Derived.Test.YtcfjomnihhdpaaaGreatDoorBu10
import Derived.Test.YtcfjomnihhdpaaaGreatDoorBu17
namespace Go.Proofs.YtcfjomnihhdpaaaGreatDoor.A
open Go.RowKit Go.Proofs.YtcfjomnihhdpaaaGreatDoorW.PrintWords Go.Proofs.YtcfjomnihhdpaaaGreatDoorW.PrintLast Go.Proofs.YtcfjomnihhdpaaaGreatDoorW.PrintMore
set_option linter.unusedVariables false
set_option linter.unusedSimpArgs false
section
theorem nanI (x:Int) (w:World):Calls Tryz.prog 110 #[.int .i64 x] w fun e w' =>e= .returned (.bool false)∧w' =w:=by
 go_enter Tryz.func110,Tryz.ntmps110
 go_wp2
 go_ret
 exact ⟨by simp,rfl⟩
theorem nanS (x:ByteArray) (w:World):Calls Tryz.prog 111 #[.string x] w fun e w' =>e= .returned (.bool false)∧w' =w:=by
 go_enter Tryz.func111,Tryz.ntmps111
 go_wp2
 go_ret
 exact ⟨by simp,rfl⟩
theorem cmpI (x:Int) (w:World):Calls Tryz.prog 66 #[.int .i64 x,.int .i64 x] w fun e w' =>e= .returned (.int .i64 0)∧Below w.heap.size w w' :=by
 have C:=Aside0.mk (nanI x)
 have h:(x<x)=False:=eq_false (by omega)
 go_enter Tryz.func66,Tryz.ntmps66
 go_wp2_with (go_at_call 110;refine (C.out _).mono ?_;rintro e w2 ⟨rfl,rfl⟩)
 go_ret
 exact ⟨rfl,Below.refl _ _⟩
theorem less_self:∀l:List UInt8,Op.bytesLess l l=false
 | []=>rfl
 |a::r=>by simp[Op.bytesLess,less_self r]
theorem cmpS (x:ByteArray) (w:World):Calls Tryz.prog 67 #[.string x,.string x] w fun e w' =>e= .returned (.int .i64 0)∧Below w.heap.size w w' :=by
 have C:=Aside0.mk (nanS x)
 have h:=less_self x.toList
 go_enter Tryz.func67,Tryz.ntmps67
 go_wp2_with (go_at_call 111;refine (C.out _).mono ?_;rintro e w2 ⟨rfl,rfl⟩)
 go_ret
 exact ⟨rfl,Below.refl _ _⟩
theorem orI (n:Nat) (hn:n≤100) (w:World) (A:Option Addr) (c:Nat) (h:(Kd.int .i64).C w A n (List.replicate n 0)):Calls Tryz.prog 65 #[.slice A n c] w fun e w' =>e= .returned (.int .i64 0)∧Below w.heap.size w w' :=by
 have HA:=Aside0.mk h
 clear h
 go_enter Tryz.func65,Tryz.ntmps65
 go_wp2
 go_loopw [8] (fun i w' =>∃y:Int,i= .int .i64 y∧0≤y∧y≤n∧w' =w) (fun i _=>n-(intOf i).toNat)
 case atStart=>exact ⟨0,rfl,Int.le_refl _,Int.natCast_nonneg _,rfl⟩
 case round =>
  obtain ⟨y,rfl,hy,hyk,rfl⟩:=hrel
  by_cases hyl:y<n
  ·obtain ⟨ad,e,x0⟩:=Kd.at_int HA.out y hy hyl
   cases e
   rw[show rd (List.replicate n 0) y=0 by unfold rd;rw[List.getD_eq_getElem?_getD,List.getElem?_replicate,if_pos (by omega)];rfl]at x0
   go_wp2
   go_roundw
   case rel=>exact ⟨y+1,rfl,by omega,by omega,by simp⟩
   case measure=>simp[intOf];omega
  ·go_wp2
   go_ret
   exact ⟨rfl,Below.refl _ _⟩
section
variable {ops:Array Oper} {Q:Exit→Act→World→Prop} {i:Nat} {o:Oper} {J:Act→World→Prop} {a:Act} {w:World}
attribute [local go_sem] Oper.semAt_some
theorem op_fa59 {k:Tmp} {b m:Nat} (hi:ops[i]? =some o) (hg:o.guard=none) (hm:m<3) (ho:o.op= .fieldAddr 59 (.tmp k) m) (ha:a.tmps[k]?.getD undef= .pointer (some ⟨b,0,none⟩)) (h:J (a.put o.dst (.pointer (some ⟨b,m,none⟩))) w):wpOp Tryz.prog ops Q i J a w:=by
 rcases (show m=0∨m=1∨m=2 by omega)with rfl | rfl | rfl
 all_goals (
  refine op_value hi (wanted_none hg) (w' :=w) ?_ h
  unfold execOp
  rw[ho]
  go_simp)
theorem op_fa37 {k:Tmp} {b m:Nat} (hi:ops[i]? =some o) (hg:o.guard=none) (hm:m<6) (ho:o.op= .fieldAddr 37 (.tmp k) m) (ha:a.tmps[k]?.getD undef= .pointer (some ⟨b,0,none⟩)) (h:J (a.put o.dst (.pointer (some ⟨b,m,none⟩))) w):wpOp Tryz.prog ops Q i J a w:=by
 rcases (show m=0∨m=1∨m=2∨m=3∨m=4∨m=5 by omega)with rfl | rfl | rfl | rfl | rfl | rfl
 all_goals (
  refine op_value hi (wanted_none hg) (w' :=w) ?_ h
  unfold execOp
  rw[ho]
  go_simp)
theorem op_ld1 {T:TypeId} {k:Tmp} {b m:Nat} {v:Value} (hi:ops[i]? =some o) (hg:o.guard=none) (hT:T=3∨T=9∨T=34∨T=35) (ho:o.op= .load T (.tmp k)) (ha:a.tmps[k]?.getD undef= .pointer (some ⟨b,m,none⟩)) (hc:w.cell? ⟨b,m,none⟩=some v) (h:J (a.put o.dst v) w):wpOp Tryz.prog ops Q i J a w:=by
 rcases hT with rfl | rfl | rfl | rfl
 all_goals (
  refine op_value hi (wanted_none hg) (w' :=w) ?_ h
  unfold execOp
  rw[ho]
  go_simp)
theorem op_valC {f:FuncId} {xs:Array Operand} {vs:Array Value} {ts:Array TypeId} {v:Value} (hi:ops[i]? =some o) (hg:o.guard=none) (hen:Enters Tryz.prog f) (ho:o.op= .call {callee:= .value (.func f),args:=xs,argTypes:=ts}) (hx:xs.map a.eval=vs) (hc:Calls Tryz.prog f vs w fun e w' =>e= .returned v∧Below w.heap.size w w') (h:∀w',Below w.heap.size w w' →J (a.put o.dst v) w'):wpOp Tryz.prog ops Q i J a w:=by
 refine op_call hi (wanted_none hg) ?_ (hc.mono ?_)
 ·have he:=hen vs w
  subst hx
  unfold execOp
  rw[ho]
  simp[go_sem,resolve,Deferred.ofValue,invoke,he]
 ·rintro e w' ⟨rfl,hb⟩
  exact ⟨_,rfl,h w' hb⟩
def Kn.zs (n:Nat):Kn:=⟨fun v w=>∃A c,v= .slice A n c∧(Kd.int .i64).C w A n (List.replicate n 0),fun _ _ _ h hB=>by
 obtain ⟨A,c,e,h⟩:=h
 exact ⟨A,c,e,Kd.C_below h hB⟩⟩
theorem zs_new (w:World) (n:Nat) (hn:n≤100):(Kn.zs n).In (.slice (some ⟨w.heap.size,0,none⟩) n n) (w.alloc (.cells (List.replicate n (Value.int .i64 0)).toArray 3)):=by
 obtain ⟨A,c,he,hC⟩:=own_reads_row (R:=fun (x:Int) (cs:List Value)=>cs=[.int .i64 x]) (ps:=List.replicate n 0) (block_own (w:=w.alloc (.cells (List.replicate n (Value.int .i64 0)).toArray 3)) (cs:=List.replicate n (Value.int .i64 0)) (size:=1) (n:=n) (heap_alloc_new w _) (by simp) (by omega)) (by have:=Kd.reps_scalar (enc:=Value.int .i64) (List.replicate n 0);rwa [encs,List.map_replicate]at this) (by simp)
 injection he with he1 he2 he3
 subst he1
 exact ⟨_,_,rfl,hC⟩
theorem op_zs3 {k0 k1 k2:Tmp} (hi:ops[i]? =some o) (hg:o.guard=none) (ho:o.op= .buildSlice 27 3 #[(0,.tmp k0),(1,.tmp k1),(2,.tmp k2)]) (h0:a.tmps[k0]?.getD undef= .int .i64 0) (h1:a.tmps[k1]?.getD undef= .int .i64 0) (h2:a.tmps[k2]?.getD undef= .int .i64 0) (h:∀v w',(Kn.zs 3).In v w' →Below w.heap.size w w' →J (a.put o.dst v) w'):wpOp Tryz.prog ops Q i J a w:=by
 refine op_value hi (wanted_none hg) ?_ (h _ _ (zs_new w 3 (by decide)) (below_alloc (Below.refl _ _) _))
 unfold execOp
 rw[ho]
 go_simp
theorem op_zs6 {k0 k1 k2 k3 k4 k5:Tmp} (hi:ops[i]? =some o) (hg:o.guard=none) (ho:o.op= .buildSlice 27 6 #[(0,.tmp k0),(1,.tmp k1),(2,.tmp k2),(3,.tmp k3),(4,.tmp k4),(5,.tmp k5)]) (h0:a.tmps[k0]?.getD undef= .int .i64 0) (h1:a.tmps[k1]?.getD undef= .int .i64 0) (h2:a.tmps[k2]?.getD undef= .int .i64 0) (h3:a.tmps[k3]?.getD undef= .int .i64 0) (h4:a.tmps[k4]?.getD undef= .int .i64 0) (h5:a.tmps[k5]?.getD undef= .int .i64 0) (h:∀v w',(Kn.zs 6).In v w' →Below w.heap.size w w' →J (a.put o.dst v) w'):wpOp Tryz.prog ops Q i J a w:=by
 refine op_value hi (wanted_none hg) ?_ (h _ _ (zs_new w 6 (by decide)) (below_alloc (Below.refl _ _) _))
 unfold execOp
 rw[ho]
 go_simp
end
section
variable {ops:Array Oper} {Q:Exit→Act→World→Prop} {i:Nat} {o:Oper} {J:Act→World→Prop} {a:Act} {w:World}
attribute [local go_sem] Oper.semAt_some
theorem op_box59 {k:Tmp} {x:S59} (hi:ops[i]? =some o) (hg:o.guard=none) (ho:o.op= .box 59 (.tmp k)) (ha:a.tmps[k]?.getD undef= .agg #[.int .i64 x.f0,.int .i64 x.f1,.string x.f2]) (h:∀w',w'.heap[w.heap.size]? =some (.cells #[.int .i64 x.f0,.int .i64 x.f1,.string x.f2] 59 (0,0))→Below w.heap.size w w' →w'.heap.size=w.heap.size+1→J (a.put o.dst (.pointer (some ⟨w.heap.size,0,none⟩))) w'):wpOp Tryz.prog ops Q i J a w:=by
 refine op_value hi (wanted_none hg) (w' :=w.alloc (.cells #[.int .i64 x.f0,.int .i64 x.f1,.string x.f2] 59)) ?_ (h _ (blk_new w _) (below_alloc (Below.refl _ _) _) (by simp))
 unfold execOp
 rw[ho]
 go_simp
theorem op_box37 {k:Tmp} {x:S37} {A2:Option Addr} {c2:Nat} {A5:Option Addr} {c5:Nat} (hi:ops[i]? =some o) (hg:o.guard=none) (ho:o.op= .box 37 (.tmp k)) (ha:a.tmps[k]?.getD undef= .agg #[.int .i64 x.f0,.string x.f1,.slice A2 x.f2.length c2,.int .i64 x.f3,.int .i64 x.f4,.slice A5 x.f5.length c5]) (h:∀w',w'.heap[w.heap.size]? =some (.cells #[.int .i64 x.f0,.string x.f1,.slice A2 x.f2.length c2,.int .i64 x.f3,.int .i64 x.f4,.slice A5 x.f5.length c5] 37 (0,0))→Below w.heap.size w w' →w'.heap.size=w.heap.size+1→J (a.put o.dst (.pointer (some ⟨w.heap.size,0,none⟩))) w'):wpOp Tryz.prog ops Q i J a w:=by
 refine op_value hi (wanted_none hg) (w' :=w.alloc (.cells #[.int .i64 x.f0,.string x.f1,.slice A2 x.f2.length c2,.int .i64 x.f3,.int .i64 x.f4,.slice A5 x.f5.length c5] 37)) ?_ (h _ (blk_new w _) (below_alloc (Below.refl _ _) _) (by simp))
 unfold execOp
 rw[ho]
 go_simp
end
set_option maxHeartbeats 2000000 in
set_option maxRecDepth 100000 in
theorem refs_calls (r:S59) (w:World):Calls Tryz.prog 69 #[.agg #[.int .i64 r.f0,.int .i64 r.f1,.string r.f2],.agg #[.int .i64 r.f0,.int .i64 r.f1,.string r.f2]] w fun e w' =>e= .returned (.int .i64 0)∧Below w.heap.size w w' :=by
 refine calls_frN 22 (fun j=>match j with | 0=> .agg #[.int .i64 r.f0,.int .i64 r.f1,.string r.f2] | 1=> .agg #[.int .i64 r.f0,.int .i64 r.f1,.string r.f2] | _=>undef) Tryz.func69 (show Tryz.f69.body=some _ from rfl) (by kernel_rfl) ?_
 refine wp_seq (wp_region_list (list_op (i:=0) rfl (op_box59 rfl rfl rfl rfl fun u0 xa h0 s0=>fop rfl (by decide) (list_op (i:=1) rfl (op_box59 rfl rfl rfl rfl fun u1 xb h1 s1=>fop rfl (by decide) (list_op (i:=2) rfl (op_asgc rfl rfl rfl (fop rfl (by decide) ?_))))))))
 rw[s0]at xb s1 ⊢
 replace xa:=blk_below xa h1
 have hB:=below_step h0 h1
 have bw:∀{V},Below u1.drew.heap.size u1.drew V→Below u1.heap.size u1 V:=fun hB=>below_step (below_drew (Below.refl _ _)) hB
 refine wp_seq (region_kn0 22 (.is (.pointer (some ⟨w.heap.size,0,none⟩)):: .is (.int .i64 r.f0):: .is (.pointer (some ⟨(w.heap.size+1),0,none⟩)):: .is (.int .i64 r.f0):: .is (.int .i64 0):: .is (.pointer (some ⟨w.heap.size,1,none⟩)):: .is (.int .i64 r.f1):: .is (.pointer (some ⟨(w.heap.size+1),1,none⟩)):: .is (.int .i64 r.f1):: .is (.int .i64 0):: .is (.pointer (some ⟨w.heap.size,2,none⟩)):: .is (.string r.f2):: .is (.pointer (some ⟨(w.heap.size+1),2,none⟩)):: .is (.string r.f2):: .is (.int .i64 0):: .zs 3:: .is (.int .i64 0):: .is (.int .i64 0)::[]) [5,6,7,8,9,10,11,12,13,14,15,16,17,18,19,20,21,4] _ u1 (by kernel_rfl) (by kernel_rfl) ⟨
  fun q V J hB hq h hi=>op_fa59 hi rfl (by decide) rfl rfl (h _ _ rfl (.refl _ _)),
  fun q V J hB hq h hi=>op_ld1 hi rfl (by decide) rfl (hq 0 rfl) (blk_cell (blk_below xa (bw hB)) 0) (h _ _ rfl (.refl _ _)),
  fun q V J hB hq h hi=>op_fa59 hi rfl (by decide) rfl rfl (h _ _ rfl (.refl _ _)),
  fun q V J hB hq h hi=>op_ld1 hi rfl (by decide) rfl (hq 2 rfl) (blk_cell (blk_below xb (bw hB)) 0) (h _ _ rfl (.refl _ _)),
  fun q V J hB hq h hi=>op_valC hi rfl (enters_of Tryz.func66 (by kernel_rfl) rfl) rfl (by simp only[List.map_toArray,List.map_cons,List.map_nil];show #[q 1,q 3]=_;rw[show q 1=_ from hq 1 rfl,show q 3=_ from hq 3 rfl]) (cmpI r.f0 V) fun w1 hb=>h _ _ rfl hb,
  fun q V J hB hq h hi=>op_fa59 hi rfl (by decide) rfl rfl (h _ _ rfl (.refl _ _)),
  fun q V J hB hq h hi=>op_ld1 hi rfl (by decide) rfl (hq 5 rfl) (blk_cell (blk_below xa (bw hB)) 1) (h _ _ rfl (.refl _ _)),
  fun q V J hB hq h hi=>op_fa59 hi rfl (by decide) rfl rfl (h _ _ rfl (.refl _ _)),
  fun q V J hB hq h hi=>op_ld1 hi rfl (by decide) rfl (hq 7 rfl) (blk_cell (blk_below xb (bw hB)) 1) (h _ _ rfl (.refl _ _)),
  fun q V J hB hq h hi=>op_valC hi rfl (enters_of Tryz.func66 (by kernel_rfl) rfl) rfl (by simp only[List.map_toArray,List.map_cons,List.map_nil];show #[q 6,q 8]=_;rw[show q 6=_ from hq 6 rfl,show q 8=_ from hq 8 rfl]) (cmpI r.f1 V) fun w1 hb=>h _ _ rfl hb,
  fun q V J hB hq h hi=>op_fa59 hi rfl (by decide) rfl rfl (h _ _ rfl (.refl _ _)),
  fun q V J hB hq h hi=>op_ld1 hi rfl (by decide) rfl (hq 10 rfl) (blk_cell (blk_below xa (bw hB)) 2) (h _ _ rfl (.refl _ _)),
  fun q V J hB hq h hi=>op_fa59 hi rfl (by decide) rfl rfl (h _ _ rfl (.refl _ _)),
  fun q V J hB hq h hi=>op_ld1 hi rfl (by decide) rfl (hq 12 rfl) (blk_cell (blk_below xb (bw hB)) 2) (h _ _ rfl (.refl _ _)),
  fun q V J hB hq h hi=>op_valC hi rfl (enters_of Tryz.func67 (by kernel_rfl) rfl) rfl (by simp only[List.map_toArray,List.map_cons,List.map_nil];show #[q 11,q 13]=_;rw[show q 11=_ from hq 11 rfl,show q 13=_ from hq 13 rfl]) (cmpS r.f2 V) fun w1 hb=>h _ _ rfl hb,
  fun q V J hB hq h hi=>op_zs3 hi rfl rfl (hq 4 rfl) (hq 9 rfl) (hq 14 rfl) h,
  fun q V J hB hq h hi=>by obtain ⟨A,c,e,hz⟩:=hq 15 rfl;exact op_valC hi rfl (enters_of Tryz.func65 (by kernel_rfl) rfl) rfl (by simp only[List.map_toArray,List.map_cons,List.map_nil];show #[q 15]=_;rw[show q 15=_ from e]) (orI 3 (by decide) V A c hz) fun w1 hb=>h _ _ rfl hb,
  fun q V J hB hq h hi=>op_asg hi rfl rfl (hq 16 rfl) (h _ _ rfl (.refl _ _)),trivial⟩ ?_)
 intro q V hB9 hx
 refine wp_ret (bodyPost_ret (v:= .int .i64 0) ?_ rfl ⟨rfl,below_step hB (bw hB9)⟩)
 rw[←hx 17 (by decide)]
 exact results_tmp (show Tryz.f69.results= #[.tmp 4]from rfl) _ _ _
set_option maxHeartbeats 2000000 in
set_option maxRecDepth 100000 in
theorem cfR (l:List S59) (w:World) (A:Option Addr) (c:Nat) (B:Option Addr) (d:Nat) (hA:k59.C w A l.length l) (hB:k59.C w B l.length l) (hc:l.length≤c) (hd:l.length≤d):Calls Tryz.prog 68 #[.slice A l.length c,.slice B l.length d,.func (.func 69) #[] #[]] w fun e w' =>e= .returned (.int .i64 0)∧Below w.heap.size w w' :=by
 have HA:=Aside0.mk hA
 have HB:=Aside0.mk hB
 have HM:l.length≤9223372036854775807:=by
  have:=hA.2.1
  omega
 clear hA hB
 go_enter Tryz.func68,Tryz.ntmps68
 go_wp2
 go_loopw [13] (fun i w' =>∃y:Int,i= .int .i64 y∧0≤y∧y≤l.length∧Aside0 (Below w.heap.size w w')) (fun i _=>l.length-(intOf i).toNat)
 case atStart=>exact ⟨0,rfl,Int.le_refl _,Int.natCast_nonneg _,⟨Below.refl _ _⟩⟩
 case round =>
  obtain ⟨y,rfl,hy,hyk,HBL⟩:=hrel
  by_cases hyl:y<l.length
  ·obtain ⟨ada,e,x0,x1,x2⟩:=at_T59 HA.out y hy hyl
   cases e
   obtain ⟨adb,e,z0,z1,z2⟩:=at_T59 HB.out y hy hyl
   cases e
   have hm:rd_T59 l y∈l:=mem_get z59 l y hy hyl
   generalize rd_T59 l y=r at *
   replace x0:=pw_cell_below HBL.out x0
   replace x1:=pw_cell_below HBL.out x1
   replace x2:=pw_cell_below HBL.out x2
   have hz:=below_step HBL.out (below_alloc (Below.refl wr.heap.size wr) (.cells #[.int .i64 r.f0,.int .i64 r.f1,.string r.f2] 59))
   replace z0:=pw_cell_below hz z0
   replace z1:=pw_cell_below hz z1
   replace z2:=pw_cell_below hz z2
   have HX:=blk_alloc (blk_new wr (.cells #[.int .i64 r.f0,.int .i64 r.f1,.string r.f2] 59)) (.cells #[.int .i64 r.f0,.int .i64 r.f1,.string r.f2] 59)
   have HY:=new2 wr (.cells #[.int .i64 r.f0,.int .i64 r.f1,.string r.f2] 59) (.cells #[.int .i64 r.f0,.int .i64 r.f1,.string r.f2] 59)
   have a0:=blk_cell HX 0
   have b0:=blk_cell HY 0
   have a1:=blk_cell HX 1
   have b1:=blk_cell HY 1
   have a2:=blk_cell HX 2
   have b2:=blk_cell HY 2
   simp at a0 b0 a1 b1 a2 b2
   have BB:=Aside0.mk (below_step HBL.out (below_alloc (below_alloc (Below.refl wr.heap.size wr) (.cells #[.int .i64 r.f0,.int .i64 r.f1,.string r.f2] 59)) (.cells #[.int .i64 r.f0,.int .i64 r.f1,.string r.f2] 59)))
   have C:=Aside0.mk (refs_calls r ((wr.alloc (.cells #[.int .i64 r.f0,.int .i64 r.f1,.string r.f2] 59)).alloc (.cells #[.int .i64 r.f0,.int .i64 r.f1,.string r.f2] 59)))
   have p1:=eq_true hy
   have q1:=eq_true hyl
   have q2:((l.length:Int)≤y)=False:=eq_false (by omega)
   clear hz HX HY hm
   go_wp2_with (first | (go_at_call 69;refine C.out.mono ?_;rintro e w2 ⟨rfl,hB2⟩;have BB:=Aside0.mk (below_step BB.out hB2);clear hB2))
   go_roundw
   case rel=>exact ⟨y+1,rfl,by omega,by omega,BB⟩
   case measure=>simp[intOf];omega
  ·go_wp2
   go_ret
   exact ⟨rfl,HBL.out⟩
set_option maxHeartbeats 2000000 in
set_option maxRecDepth 100000 in
theorem cfF (l:List S37) (w:World) (ih:(∀x∈l,∀(V:World) (A2:Option Addr) (c2:Nat) (A5:Option Addr) (c5:Nat) (B2:Option Addr) (d2:Nat) (B5:Option Addr) (d5:Nat),FmC V x A2 c2 A5 c5→FmC V x B2 d2 B5 d5→Calls Tryz.prog 34 #[.agg #[.int .i64 x.f0,.string x.f1,.slice A2 x.f2.length c2,.int .i64 x.f3,.int .i64 x.f4,.slice A5 x.f5.length c5],.agg #[.int .i64 x.f0,.string x.f1,.slice B2 x.f2.length d2,.int .i64 x.f3,.int .i64 x.f4,.slice B5 x.f5.length d5]] V fun e w' =>e= .returned (.int .i64 0)∧Below V.heap.size V w')) (A:Option Addr) (c:Nat) (B:Option Addr) (d:Nat) (hA:k37.C w A l.length l) (hB:k37.C w B l.length l) (hc:l.length≤c) (hd:l.length≤d):Calls Tryz.prog 70 #[.slice A l.length c,.slice B l.length d,.func (.func 34) #[] #[]] w fun e w' =>e= .returned (.int .i64 0)∧Below w.heap.size w w' :=by
 have HA:=Aside0.mk hA
 have HB:=Aside0.mk hB
 have HM:l.length≤9223372036854775807:=by
  have:=hA.2.1
  omega
 have IH:=Aside0.mk ih
 clear ih
 clear hA hB
 go_enter Tryz.func70,Tryz.ntmps70
 go_wp2
 go_loopw [13] (fun i w' =>∃y:Int,i= .int .i64 y∧0≤y∧y≤l.length∧Aside0 (Below w.heap.size w w')) (fun i _=>l.length-(intOf i).toNat)
 case atStart=>exact ⟨0,rfl,Int.le_refl _,Int.natCast_nonneg _,⟨Below.refl _ _⟩⟩
 case round =>
  obtain ⟨y,rfl,hy,hyk,HBL⟩:=hrel
  by_cases hyl:y<l.length
  ·obtain ⟨ada,A2,c2,A5,c5,e,x0,x1,x2,x3,x4,x5,l2a,g2a,l5a,g5a⟩:=at_T37 HA.out y hy hyl
   cases e
   obtain ⟨adb,D2,e2,D5,e5,e,z0,z1,z2,z3,z4,z5,l2b,g2b,l5b,g5b⟩:=at_T37 HB.out y hy hyl
   cases e
   have hm:rd_T37 l y∈l:=mem_get z37 l y hy hyl
   generalize rd_T37 l y=r at *
   have FA:=Aside0.mk (show FmC w r A2 c2 A5 c5 from ⟨l2a,g2a,l5a,g5a⟩)
   have FB:=Aside0.mk (show FmC w r D2 e2 D5 e5 from ⟨l2b,g2b,l5b,g5b⟩)
   clear l2a g2a l5a g5a l2b g2b l5b g5b
   replace x0:=pw_cell_below HBL.out x0
   replace x1:=pw_cell_below HBL.out x1
   replace x2:=pw_cell_below HBL.out x2
   replace x3:=pw_cell_below HBL.out x3
   replace x4:=pw_cell_below HBL.out x4
   replace x5:=pw_cell_below HBL.out x5
   have hz:=below_step HBL.out (below_alloc (Below.refl wr.heap.size wr) (.cells #[.int .i64 r.f0,.string r.f1,.slice A2 r.f2.length c2,.int .i64 r.f3,.int .i64 r.f4,.slice A5 r.f5.length c5] 37))
   replace z0:=pw_cell_below hz z0
   replace z1:=pw_cell_below hz z1
   replace z2:=pw_cell_below hz z2
   replace z3:=pw_cell_below hz z3
   replace z4:=pw_cell_below hz z4
   replace z5:=pw_cell_below hz z5
   have HX:=blk_alloc (blk_new wr (.cells #[.int .i64 r.f0,.string r.f1,.slice A2 r.f2.length c2,.int .i64 r.f3,.int .i64 r.f4,.slice A5 r.f5.length c5] 37)) (.cells #[.int .i64 r.f0,.string r.f1,.slice D2 r.f2.length e2,.int .i64 r.f3,.int .i64 r.f4,.slice D5 r.f5.length e5] 37)
   have HY:=new2 wr (.cells #[.int .i64 r.f0,.string r.f1,.slice A2 r.f2.length c2,.int .i64 r.f3,.int .i64 r.f4,.slice A5 r.f5.length c5] 37) (.cells #[.int .i64 r.f0,.string r.f1,.slice D2 r.f2.length e2,.int .i64 r.f3,.int .i64 r.f4,.slice D5 r.f5.length e5] 37)
   have a0:=blk_cell HX 0
   have b0:=blk_cell HY 0
   have a1:=blk_cell HX 1
   have b1:=blk_cell HY 1
   have a2:=blk_cell HX 2
   have b2:=blk_cell HY 2
   have a3:=blk_cell HX 3
   have b3:=blk_cell HY 3
   have a4:=blk_cell HX 4
   have b4:=blk_cell HY 4
   have a5:=blk_cell HX 5
   have b5:=blk_cell HY 5
   simp at a0 b0 a1 b1 a2 b2 a3 b3 a4 b4 a5 b5
   have BB:=Aside0.mk (below_step HBL.out (below_alloc (below_alloc (Below.refl wr.heap.size wr) (.cells #[.int .i64 r.f0,.string r.f1,.slice A2 r.f2.length c2,.int .i64 r.f3,.int .i64 r.f4,.slice A5 r.f5.length c5] 37)) (.cells #[.int .i64 r.f0,.string r.f1,.slice D2 r.f2.length e2,.int .i64 r.f3,.int .i64 r.f4,.slice D5 r.f5.length e5] 37)))
   have C:=Aside0.mk (IH.out r hm _ _ _ _ _ _ _ _ _ (FA.out.below BB.out) (FB.out.below BB.out))
   have p1:=eq_true hy
   have q1:=eq_true hyl
   have q2:((l.length:Int)≤y)=False:=eq_false (by omega)
   clear hz HX HY hm
   go_wp2_with (first | (go_at_call 34;refine C.out.mono ?_;rintro e w2 ⟨rfl,hB2⟩;have BB:=Aside0.mk (below_step BB.out hB2);clear hB2))
   go_roundw
   case rel=>exact ⟨y+1,rfl,by omega,by omega,BB⟩
   case measure=>simp[intOf];omega
  ·go_wp2
   go_ret
   exact ⟨rfl,HBL.out⟩
set_option maxHeartbeats 2000000 in
set_option maxRecDepth 100000 in
theorem cmpF_step (f:S37) (ih:(∀x∈f.f5,∀(V:World) (A2:Option Addr) (c2:Nat) (A5:Option Addr) (c5:Nat) (B2:Option Addr) (d2:Nat) (B5:Option Addr) (d5:Nat),FmC V x A2 c2 A5 c5→FmC V x B2 d2 B5 d5→Calls Tryz.prog 34 #[.agg #[.int .i64 x.f0,.string x.f1,.slice A2 x.f2.length c2,.int .i64 x.f3,.int .i64 x.f4,.slice A5 x.f5.length c5],.agg #[.int .i64 x.f0,.string x.f1,.slice B2 x.f2.length d2,.int .i64 x.f3,.int .i64 x.f4,.slice B5 x.f5.length d5]] V fun e w' =>e= .returned (.int .i64 0)∧Below V.heap.size V w')) (w:World) (A2:Option Addr) (c2:Nat) (A5:Option Addr) (c5:Nat) (B2:Option Addr) (d2:Nat) (B5:Option Addr) (d5:Nat) (fv:FmC w f A2 c2 A5 c5) (gv:FmC w f B2 d2 B5 d5):Calls Tryz.prog 34 #[.agg #[.int .i64 f.f0,.string f.f1,.slice A2 f.f2.length c2,.int .i64 f.f3,.int .i64 f.f4,.slice A5 f.f5.length c5],.agg #[.int .i64 f.f0,.string f.f1,.slice B2 f.f2.length d2,.int .i64 f.f3,.int .i64 f.f4,.slice B5 f.f5.length d5]] w fun e w' =>e= .returned (.int .i64 0)∧Below w.heap.size w w' :=by
 refine calls_frN 37 (fun j=>match j with | 0=> .agg #[.int .i64 f.f0,.string f.f1,.slice A2 f.f2.length c2,.int .i64 f.f3,.int .i64 f.f4,.slice A5 f.f5.length c5] | 1=> .agg #[.int .i64 f.f0,.string f.f1,.slice B2 f.f2.length d2,.int .i64 f.f3,.int .i64 f.f4,.slice B5 f.f5.length d5] | _=>undef) Tryz.func34 (show Tryz.f34.body=some _ from rfl) (by kernel_rfl) ?_
 refine wp_seq (wp_region_list (list_op (i:=0) rfl (op_box37 rfl rfl rfl rfl fun u0 xa h0 s0=>fop rfl (by decide) (list_op (i:=1) rfl (op_box37 rfl rfl rfl rfl fun u1 xb h1 s1=>fop rfl (by decide) (list_op (i:=2) rfl (op_asgc rfl rfl rfl (fop rfl (by decide) ?_))))))))
 rw[s0]at xb s1 ⊢
 replace xa:=blk_below xa h1
 have hB:=below_step h0 h1
 have hB0:=hB
 have bw:∀{V},Below u1.drew.heap.size u1.drew V→Below u1.heap.size u1 V:=fun hB=>below_step (below_drew (Below.refl _ _)) hB
 refine wp_seq (region_kn0 37 (.is (.pointer (some ⟨w.heap.size,0,none⟩)):: .is (.int .i64 f.f0):: .is (.pointer (some ⟨(w.heap.size+1),0,none⟩)):: .is (.int .i64 f.f0):: .is (.int .i64 0):: .is (.pointer (some ⟨w.heap.size,1,none⟩)):: .is (.string f.f1):: .is (.pointer (some ⟨(w.heap.size+1),1,none⟩)):: .is (.string f.f1):: .is (.int .i64 0):: .is (.pointer (some ⟨w.heap.size,2,none⟩)):: .is (.slice A2 f.f2.length c2):: .is (.pointer (some ⟨(w.heap.size+1),2,none⟩)):: .is (.slice B2 f.f2.length d2):: .is (.int .i64 0):: .is (.pointer (some ⟨w.heap.size,3,none⟩)):: .is (.int .i64 f.f3):: .is (.pointer (some ⟨(w.heap.size+1),3,none⟩)):: .is (.int .i64 f.f3):: .is (.int .i64 0):: .is (.pointer (some ⟨w.heap.size,4,none⟩)):: .is (.int .i64 f.f4):: .is (.pointer (some ⟨(w.heap.size+1),4,none⟩)):: .is (.int .i64 f.f4):: .is (.int .i64 0):: .is (.pointer (some ⟨w.heap.size,5,none⟩)):: .is (.slice A5 f.f5.length c5):: .is (.pointer (some ⟨(w.heap.size+1),5,none⟩)):: .is (.slice B5 f.f5.length d5):: .is (.int .i64 0):: .zs 6:: .is (.int .i64 0):: .is (.int .i64 0)::[]) [5,6,7,8,9,10,11,12,13,14,15,16,17,18,19,20,21,22,23,24,25,26,27,28,29,30,31,32,33,34,35,36,4] _ u1 (by kernel_rfl) (by kernel_rfl) ⟨
  fun q V J hB hq h hi=>op_fa37 hi rfl (by decide) rfl rfl (h _ _ rfl (.refl _ _)),
  fun q V J hB hq h hi=>op_ld1 hi rfl (by decide) rfl (hq 0 rfl) (blk_cell (blk_below xa (bw hB)) 0) (h _ _ rfl (.refl _ _)),
  fun q V J hB hq h hi=>op_fa37 hi rfl (by decide) rfl rfl (h _ _ rfl (.refl _ _)),
  fun q V J hB hq h hi=>op_ld1 hi rfl (by decide) rfl (hq 2 rfl) (blk_cell (blk_below xb (bw hB)) 0) (h _ _ rfl (.refl _ _)),
  fun q V J hB hq h hi=>op_valC hi rfl (enters_of Tryz.func66 (by kernel_rfl) rfl) rfl (by simp only[List.map_toArray,List.map_cons,List.map_nil];show #[q 1,q 3]=_;rw[show q 1=_ from hq 1 rfl,show q 3=_ from hq 3 rfl]) (cmpI f.f0 V) fun w1 hb=>h _ _ rfl hb,
  fun q V J hB hq h hi=>op_fa37 hi rfl (by decide) rfl rfl (h _ _ rfl (.refl _ _)),
  fun q V J hB hq h hi=>op_ld1 hi rfl (by decide) rfl (hq 5 rfl) (blk_cell (blk_below xa (bw hB)) 1) (h _ _ rfl (.refl _ _)),
  fun q V J hB hq h hi=>op_fa37 hi rfl (by decide) rfl rfl (h _ _ rfl (.refl _ _)),
  fun q V J hB hq h hi=>op_ld1 hi rfl (by decide) rfl (hq 7 rfl) (blk_cell (blk_below xb (bw hB)) 1) (h _ _ rfl (.refl _ _)),
  fun q V J hB hq h hi=>op_valC hi rfl (enters_of Tryz.func67 (by kernel_rfl) rfl) rfl (by simp only[List.map_toArray,List.map_cons,List.map_nil];show #[q 6,q 8]=_;rw[show q 6=_ from hq 6 rfl,show q 8=_ from hq 8 rfl]) (cmpS f.f1 V) fun w1 hb=>h _ _ rfl hb,
  fun q V J hB hq h hi=>op_fa37 hi rfl (by decide) rfl rfl (h _ _ rfl (.refl _ _)),
  fun q V J hB hq h hi=>op_ld1 hi rfl (by decide) rfl (hq 10 rfl) (blk_cell (blk_below xa (bw hB)) 2) (h _ _ rfl (.refl _ _)),
  fun q V J hB hq h hi=>op_fa37 hi rfl (by decide) rfl rfl (h _ _ rfl (.refl _ _)),
  fun q V J hB hq h hi=>op_ld1 hi rfl (by decide) rfl (hq 12 rfl) (blk_cell (blk_below xb (bw hB)) 2) (h _ _ rfl (.refl _ _)),
  fun q V J hB hq h hi=>op_valC hi rfl (enters_of Tryz.func68 (by kernel_rfl) rfl) rfl (by simp only[List.map_toArray,List.map_cons,List.map_nil];show #[q 11,q 13,.func (.func 69) #[] #[]]=_;rw[show q 11=_ from hq 11 rfl,show q 13=_ from hq 13 rfl]) (cfR f.f2 V A2 c2 B2 d2 (Kd.C_below fv.a (below_step hB0 (bw hB))) (Kd.C_below gv.a (below_step hB0 (bw hB))) fv.l2 gv.l2) fun w1 hb=>h _ _ rfl hb,
  fun q V J hB hq h hi=>op_fa37 hi rfl (by decide) rfl rfl (h _ _ rfl (.refl _ _)),
  fun q V J hB hq h hi=>op_ld1 hi rfl (by decide) rfl (hq 15 rfl) (blk_cell (blk_below xa (bw hB)) 3) (h _ _ rfl (.refl _ _)),
  fun q V J hB hq h hi=>op_fa37 hi rfl (by decide) rfl rfl (h _ _ rfl (.refl _ _)),
  fun q V J hB hq h hi=>op_ld1 hi rfl (by decide) rfl (hq 17 rfl) (blk_cell (blk_below xb (bw hB)) 3) (h _ _ rfl (.refl _ _)),
  fun q V J hB hq h hi=>op_valC hi rfl (enters_of Tryz.func66 (by kernel_rfl) rfl) rfl (by simp only[List.map_toArray,List.map_cons,List.map_nil];show #[q 16,q 18]=_;rw[show q 16=_ from hq 16 rfl,show q 18=_ from hq 18 rfl]) (cmpI f.f3 V) fun w1 hb=>h _ _ rfl hb,
  fun q V J hB hq h hi=>op_fa37 hi rfl (by decide) rfl rfl (h _ _ rfl (.refl _ _)),
  fun q V J hB hq h hi=>op_ld1 hi rfl (by decide) rfl (hq 20 rfl) (blk_cell (blk_below xa (bw hB)) 4) (h _ _ rfl (.refl _ _)),
  fun q V J hB hq h hi=>op_fa37 hi rfl (by decide) rfl rfl (h _ _ rfl (.refl _ _)),
  fun q V J hB hq h hi=>op_ld1 hi rfl (by decide) rfl (hq 22 rfl) (blk_cell (blk_below xb (bw hB)) 4) (h _ _ rfl (.refl _ _)),
  fun q V J hB hq h hi=>op_valC hi rfl (enters_of Tryz.func66 (by kernel_rfl) rfl) rfl (by simp only[List.map_toArray,List.map_cons,List.map_nil];show #[q 21,q 23]=_;rw[show q 21=_ from hq 21 rfl,show q 23=_ from hq 23 rfl]) (cmpI f.f4 V) fun w1 hb=>h _ _ rfl hb,
  fun q V J hB hq h hi=>op_fa37 hi rfl (by decide) rfl rfl (h _ _ rfl (.refl _ _)),
  fun q V J hB hq h hi=>op_ld1 hi rfl (by decide) rfl (hq 25 rfl) (blk_cell (blk_below xa (bw hB)) 5) (h _ _ rfl (.refl _ _)),
  fun q V J hB hq h hi=>op_fa37 hi rfl (by decide) rfl rfl (h _ _ rfl (.refl _ _)),
  fun q V J hB hq h hi=>op_ld1 hi rfl (by decide) rfl (hq 27 rfl) (blk_cell (blk_below xb (bw hB)) 5) (h _ _ rfl (.refl _ _)),
  fun q V J hB hq h hi=>op_valC hi rfl (enters_of Tryz.func70 (by kernel_rfl) rfl) rfl (by simp only[List.map_toArray,List.map_cons,List.map_nil];show #[q 26,q 28,.func (.func 34) #[] #[]]=_;rw[show q 26=_ from hq 26 rfl,show q 28=_ from hq 28 rfl]) (cfF f.f5 V ih A5 c5 B5 d5 (Kd.C_below fv.k (below_step hB0 (bw hB))) (Kd.C_below gv.k (below_step hB0 (bw hB))) fv.l5 gv.l5) fun w1 hb=>h _ _ rfl hb,
  fun q V J hB hq h hi=>op_zs6 hi rfl rfl (hq 4 rfl) (hq 9 rfl) (hq 14 rfl) (hq 19 rfl) (hq 24 rfl) (hq 29 rfl) h,
  fun q V J hB hq h hi=>by obtain ⟨A,c,e,hz⟩:=hq 30 rfl;exact op_valC hi rfl (enters_of Tryz.func65 (by kernel_rfl) rfl) rfl (by simp only[List.map_toArray,List.map_cons,List.map_nil];show #[q 30]=_;rw[show q 30=_ from e]) (orI 6 (by decide) V A c hz) fun w1 hb=>h _ _ rfl hb,
  fun q V J hB hq h hi=>op_asg hi rfl rfl (hq 31 rfl) (h _ _ rfl (.refl _ _)),trivial⟩ ?_)
 intro q V hB9 hx
 refine wp_ret (bodyPost_ret (v:= .int .i64 0) ?_ rfl ⟨rfl,below_step hB (bw hB9)⟩)
 rw[←hx 32 (by decide)]
 exact results_tmp (show Tryz.f34.results= #[.tmp 4]from rfl) _ _ _
theorem cmpF_aux:∀(n:Nat) (f:S37),SizeOf.sizeOf f≤n→∀(w:World) (A2:Option Addr) (c2:Nat) (A5:Option Addr) (c5:Nat) (B2:Option Addr) (d2:Nat) (B5:Option Addr) (d5:Nat),FmC w f A2 c2 A5 c5→FmC w f B2 d2 B5 d5→Calls Tryz.prog 34 #[.agg #[.int .i64 f.f0,.string f.f1,.slice A2 f.f2.length c2,.int .i64 f.f3,.int .i64 f.f4,.slice A5 f.f5.length c5],.agg #[.int .i64 f.f0,.string f.f1,.slice B2 f.f2.length d2,.int .i64 f.f3,.int .i64 f.f4,.slice B5 f.f5.length d5]] w fun e w' =>e= .returned (.int .i64 0)∧Below w.heap.size w w'
 |0,f,hn=>absurd hn (by cases f;simp)
 | n+1,f,hn=>fun w A2 c2 A5 c5 B2 d2 B5 d5 fv gv=>cmpF_step f (fun x hx=>cmpF_aux n x (by
   have:=List.sizeOf_lt_of_mem hx
   have:SizeOf.sizeOf f.f5<SizeOf.sizeOf f:=by cases f;simp;omega
   omega)) w A2 c2 A5 c5 B2 d2 B5 d5 fv gv
theorem cmpF_calls (f:S37) (w:World) (A2:Option Addr) (c2:Nat) (A5:Option Addr) (c5:Nat) (B2:Option Addr) (d2:Nat) (B5:Option Addr) (d5:Nat) (fv:FmC w f A2 c2 A5 c5) (gv:FmC w f B2 d2 B5 d5):Calls Tryz.prog 34 #[.agg #[.int .i64 f.f0,.string f.f1,.slice A2 f.f2.length c2,.int .i64 f.f3,.int .i64 f.f4,.slice A5 f.f5.length c5],.agg #[.int .i64 f.f0,.string f.f1,.slice B2 f.f2.length d2,.int .i64 f.f3,.int .i64 f.f4,.slice B5 f.f5.length d5]] w fun e w' =>e= .returned (.int .i64 0)∧Below w.heap.size w w' :=cmpF_aux _ f (Nat.le_refl _) w A2 c2 A5 c5 B2 d2 B5 d5 fv gv
end
section
attribute [local go_sem] Oper.semAt_some
def Kn.isT (t:S30):Kn:=⟨fun v w=>IsT w t v,fun _ _ _ h hB=>h.below hB⟩
def Kn.isL (l:List S30):Kn:=⟨fun v w=>IsL w l v,fun _ _ _ h hB=>h.below hB⟩
def IsFm (w:World) (F:S37) (v:Value):Prop:=∃A2 c2 A5 c5,v= .agg #[.int .i64 F.f0,.string F.f1,.slice A2 F.f2.length c2,.int .i64 F.f3,.int .i64 F.f4,.slice A5 F.f5.length c5]∧FmC w F A2 c2 A5 c5
def IsFs (w:World) (l:List S37) (v:Value):Prop:=∃A c,v= .slice A l.length c∧l.length≤c∧k37.C w A l.length l
theorem IsFm.below {w w' :World} {F:S37} {v:Value} (h:IsFm w F v) (hB:Below w.heap.size w w'):IsFm w' F v:=by
 obtain ⟨A2,c2,A5,c5,e,h⟩:=h
 exact ⟨A2,c2,A5,c5,e,h.below hB⟩
theorem IsFs.below {w w' :World} {l:List S37} {v:Value} (h:IsFs w l v) (hB:Below w.heap.size w w'):IsFs w' l v:=by
 obtain ⟨A,c,e,h1,h2⟩:=h
 exact ⟨A,c,e,h1,Kd.C_below h2 hB⟩
def Kn.fm (F:S37):Kn:=⟨fun v w=>IsFm w F v,fun _ _ _ h hB=>h.below hB⟩
def Kn.fs (l:List S37):Kn:=⟨fun v w=>IsFs w l v,fun _ _ _ h hB=>h.below hB⟩
def AtF (w:World) (g:Nat) (F:S37):Prop:=∃A2 c2 A5 c5,w.heap[g]? =some (.cells #[.int .i64 F.f0,.string F.f1,.slice A2 F.f2.length c2,.int .i64 F.f3,.int .i64 F.f4,.slice A5 F.f5.length c5] 37 (0,0))∧FmC w F A2 c2 A5 c5
theorem AtF.below {w w' :World} {g:Nat} {F:S37} (h:AtF w g F) (hB:Below w.heap.size w w'):AtF w' g F:=by
 obtain ⟨A2,c2,A5,c5,h1,h2⟩:=h
 exact ⟨A2,c2,A5,c5,blk_below h1 hB,h2.below hB⟩
theorem fs_blk {W:World} {g:Nat} (l:List S37) (cs:List Value) (hg:W.heap[g]? =some (.cells cs.toArray 37)) (hR:Reps (fun x c=>k37.K W x c) 6 l cs) (hn:l.length≤1000):IsFs W l (.slice (some ⟨g,0,none⟩) l.length l.length):=by
 obtain ⟨A,c,he,hC⟩:=own_reads_row (block_own (size:=6) (n:=l.length) hg (by rw[hR.1]) (by omega)) hR rfl
 injection he with he1 he2 he3
 subst he1
 exact ⟨_,_,rfl,Nat.le_refl _,hC⟩
theorem FmC.reps {w:World} {F:S37} {A2 A5:Option Addr} {c2 c5:Nat} (h:FmC w F A2 c2 A5 c5):Reps (fun x c=>k37.K w x c) 6 [F] [.int .i64 F.f0,.string F.f1,.slice A2 F.f2.length c2,.int .i64 F.f3,.int .i64 F.f4,.slice A5 F.f5.length c5]:=by
 have h:=(Reps.none (fun (x:S37) c=>k37.K w x c) 6).snoc (k37_mk w F h.l2 h.a h.l5 h.k) rfl
 simpa using h
section
variable {ops:Array Oper} {Q:Exit→Act→World→Prop} {i:Nat} {o:Oper} {J:Act→World→Prop} {a:Act} {w:World}
theorem op_loadF {F:S37} {k:Tmp} {g:Nat} (hi:ops[i]? =some o) (hg:o.guard=none) (ho:o.op= .load 37 (.tmp k)) (ha:a.tmps[k]?.getD undef= .pointer (some ⟨g,0,none⟩)) (hh:AtF w g F) (h:∀u,IsFm w F u→J (a.put o.dst u) w):wpOp Tryz.prog ops Q i J a w:=by
 obtain ⟨A2,c2,A5,c5,hb,hF⟩:=hh
 have h:=h _ ⟨A2,c2,A5,c5,rfl,hF⟩
 have x0:=blk_cell hb 0
 have x1:=blk_cell hb 1
 have x2:=blk_cell hb 2
 have x3:=blk_cell hb 3
 have x4:=blk_cell hb 4
 have x5:=blk_cell hb 5
 simp at x0 x1 x2 x3 x4 x5
 refine op_value hi (wanted_none hg) (w' :=w) ?_ h
 unfold execOp
 rw[ho]
 go_simp
theorem op_fs2 {F G:S37} {k k2:Tmp} {v v2:Value} (hi:ops[i]? =some o) (hg:o.guard=none) (ho:o.op= .buildSlice 35 2 #[(0,.tmp k),(1,.tmp k2)]) (ha:a.tmps[k]?.getD undef=v) (ha2:a.tmps[k2]?.getD undef=v2) (hv:IsFm w F v) (hv2:IsFm w G v2) (h:∀u w',IsFs w' [F,G] u→Below w.heap.size w w' →J (a.put o.dst u) w'):wpOp Tryz.prog ops Q i J a w:=by
 obtain ⟨A2,c2,A5,c5,rfl,hF⟩:=hv
 obtain ⟨B2,d2,B5,d5,rfl,hG⟩:=hv2
 have hB:=below_alloc (Below.refl w.heap.size w) (.cells #[.int .i64 F.f0,.string F.f1,.slice A2 F.f2.length c2,.int .i64 F.f3,.int .i64 F.f4,.slice A5 F.f5.length c5,.int .i64 G.f0,.string G.f1,.slice B2 G.f2.length d2,.int .i64 G.f3,.int .i64 G.f4,.slice B5 G.f5.length d5] 37)
 refine op_value hi (wanted_none hg) ?_ (h _ _ (fs_blk [F,G] _ (heap_alloc_new w _) (Kd.reps_append (hF.below hB).reps (hG.below hB).reps) (by simp)) hB)
 unfold execOp
 rw[ho]
 go_simp
theorem op_box26 {k:Tmp} {s:Sg} (hi:ops[i]? =some o) (hg:o.guard=none) (ho:o.op= .box 26 (.tmp k)) (ha:a.tmps[k]?.getD undef=sgV s) (hC:s.C w) (h:∀w',AtS w' w.heap.size s→Below w.heap.size w w' →w'.heap.size=w.heap.size+1→J (a.put o.dst (.pointer (some ⟨w.heap.size,0,none⟩))) w'):wpOp Tryz.prog ops Q i J a w:=by
 unfold sgV at ha
 refine op_value hi (wanted_none hg) (w' :=w.alloc (.cells #[.slice s.A0 s.ss.length s.c0,.slice s.A1 s.cs.length s.c1,.slice s.A2 s.ps.length s.c2] 26)) ?_ (h _ ⟨blk_new w _,SigC.below hC (below_alloc (Below.refl _ _) _)⟩ (below_alloc (Below.refl _ _) _) (by simp))
 unfold execOp
 rw[ho]
 go_simp
theorem op_eqc {T:TypeId} {k:Tmp} {n m:Int} {b:Bool} (hi:ops[i]? =some o) (hg:o.guard=none) (hT:T=38∨T=3) (ho:o.op= .binOp .eql T (.tmp k) (.const (.int .i64 m)) T) (hb:(n == m)=b) (ha:a.tmps[k]?.getD undef= .int .i64 n) (h:J (a.put o.dst (.bool b)) w):wpOp Tryz.prog ops Q i J a w:=by
 subst hb
 rcases hT with rfl | rfl
 all_goals (
  refine op_value hi (wanted_none hg) (w' :=w) ?_ h
  unfold execOp
  rw[ho]
  go_simp)
theorem op_nec {k:Tmp} {n m:Int} {b:Bool} (hi:ops[i]? =some o) (hg:o.guard=none) (ho:o.op= .binOp .neq 38 (.tmp k) (.const (.int .i64 m)) 38) (hb:(n != m)=b) (ha:a.tmps[k]?.getD undef= .int .i64 n) (h:J (a.put o.dst (.bool b)) w):wpOp Tryz.prog ops Q i J a w:=by
 subst hb
 refine op_value hi (wanted_none hg) (w' :=w) ?_ h
 unfold execOp
 rw[ho]
 go_simp
theorem op_pickA {k k2:Tmp} {b c:Bool} (hi:ops[i]? =some o) (hg:o.guard=none) (ho:o.op= .pick (.tmp k) (.tmp k2) (.const (.bool false))) (ha:a.tmps[k]?.getD undef= .bool b) (ha2:b=true→a.tmps[k2]?.getD undef= .bool c) (h:J (a.put o.dst (.bool (b && c))) w):wpOp Tryz.prog ops Q i J a w:=by
 refine op_value hi (wanted_none hg) (w' :=w) ?_ h
 unfold execOp
 rw[ho]
 cases b with
 |false=>go_simp
 |true =>
  have ha3:=ha2 rfl
  go_simp
end
set_option maxHeartbeats 2000000 in
set_option maxRecDepth 100000 in
/-- join (33). -/
theorem join_calls (op:Int) (l:List S37) (v:Value) (w:World) (h:IsFs w l v):Calls Tryz.prog 33 #[.int .i64 op,v] w fun e w' =>∃u,e= .returned u∧IsFm w' ⟨op,⟨#[]⟩,[],0,0,l⟩ u∧Below w.heap.size w w' :=by
 obtain ⟨A,c,rfl,hl,hC⟩:=h
 have HC:=Aside0.mk hC
 clear hC
 go_enter Tryz.func33,Tryz.ntmps33
 go_wp2
 refine bodyPost_ret (results_single rfl (.cell w.heap.size 37 _ (0,0) _ rfl (blk_new w (.cells #[.int .i64 op,.string ⟨#[]⟩,.slice none 0 0,.int .i64 0,.int .i64 0,.slice A l.length c] 37)) Tryz.underlying37 rfl (by kernel_rfl) .nil)) rfl ?_
 have hB:=below_alloc (Below.refl w.heap.size w) (.cells #[.int .i64 op,.string ⟨#[]⟩,.slice none 0 0,.int .i64 0,.int .i64 0,.slice A l.length c] 37)
 exact ⟨_,rfl,⟨none,0,A,c,rfl,Nat.le_refl _,Kd.C_nil _ _,hl,Kd.C_below HC.out hB⟩,hB⟩
set_option maxHeartbeats 2000000 in
set_option maxRecDepth 100000 in
/-- long (14): it answers. -/
theorem long_calls (s:Sg) (w:World):Calls Tryz.prog 14 #[sgV s] w fun e w' =>∃b,e= .returned (.bool b)∧True∧Below w.heap.size w w' :=by
 have HB:=Aside0.mk (below_alloc (Below.refl w.heap.size w) (.cells #[.slice s.A0 s.ss.length s.c0,.slice s.A1 s.cs.length s.c1,.slice s.A2 s.ps.length s.c2] 26))
 unfold sgV
 generalize h0:decide ((300:Int)<(s.ss.length:Int))=b0
 generalize h1:decide ((300:Int)<(s.cs.length:Int))=b1
 generalize h2:decide ((300:Int)<(s.ps.length:Int))=b2
 have e0:=h0
 have e1:=h1
 have e2:=h2
 clear h0 h1 h2
 cases b0<;>cases b1<;>cases b2
 all_goals (
  go_enter Tryz.func14,Tryz.ntmps14
  go_wp2
  go_ret
  exact ⟨_,rfl,trivial,HB.out⟩)
section
variable {ops:Array Oper} {Q:Exit→Act→World→Prop} {i:Nat} {o:Oper} {J:Act→World→Prop} {a:Act} {w:World}
theorem op_join {op:Int} {l:List S37} {k:Tmp} {v:Value} {ts:Array TypeId} (hi:ops[i]? =some o) (hg:o.guard=none) (ho:o.op= .call {callee:= .value (.func 33),args:= #[.const (.int .i64 op),.tmp k],argTypes:=ts}) (ha:a.tmps[k]?.getD undef=v) (hv:IsFs w l v) (h:∀u w',IsFm w' ⟨op,⟨#[]⟩,[],0,0,l⟩ u→Below w.heap.size w w' →J (a.put o.dst u) w'):wpOp Tryz.prog ops Q i J a w:=by
 refine op_call (f:=33) (args:= #[.int .i64 op,v]) hi (wanted_none hg) ?_ ((join_calls op l v w hv).mono ?_)
 ·have he:=enters_of Tryz.func33 (by kernel_rfl) rfl #[.int .i64 op,v] w
  unfold execOp
  rw[ho]
  go_simp
 ·rintro e w' ⟨u,rfl,hu,hB⟩
  exact ⟨u,rfl,h u w' hu hB⟩
theorem op_cmpF {F:S37} {k k2:Tmp} {v v2:Value} {ts:Array TypeId} (hi:ops[i]? =some o) (hg:o.guard=none) (ho:o.op= .call {callee:= .value (.func 34),args:= #[.tmp k,.tmp k2],argTypes:=ts}) (ha:a.tmps[k]?.getD undef=v) (ha2:a.tmps[k2]?.getD undef=v2) (hv:IsFm w F v) (hv2:IsFm w F v2) (h:∀w',Below w.heap.size w w' →J (a.put o.dst (.int .i64 0)) w'):wpOp Tryz.prog ops Q i J a w:=by
 obtain ⟨A2,c2,A5,c5,rfl,hF⟩:=hv
 obtain ⟨B2,d2,B5,d5,rfl,hG⟩:=hv2
 refine op_call (f:=34) (args:= #[.agg #[.int .i64 F.f0,.string F.f1,.slice A2 F.f2.length c2,.int .i64 F.f3,.int .i64 F.f4,.slice A5 F.f5.length c5],.agg #[.int .i64 F.f0,.string F.f1,.slice B2 F.f2.length d2,.int .i64 F.f3,.int .i64 F.f4,.slice B5 F.f5.length d5]]) hi (wanted_none hg) ?_ ((cmpF_calls F w A2 c2 A5 c5 B2 d2 B5 d5 hF hG).mono ?_)
 ·have he:=enters_of Tryz.func34 (by kernel_rfl) rfl #[.agg #[.int .i64 F.f0,.string F.f1,.slice A2 F.f2.length c2,.int .i64 F.f3,.int .i64 F.f4,.slice A5 F.f5.length c5],.agg #[.int .i64 F.f0,.string F.f1,.slice B2 F.f2.length d2,.int .i64 F.f3,.int .i64 F.f4,.slice B5 F.f5.length d5]] w
  unfold execOp
  rw[ho]
  go_simp
 ·rintro e w' ⟨rfl,hB⟩
  exact ⟨_,rfl,h w' hB⟩
theorem op_box37v {F:S37} {k:Tmp} {v:Value} (hi:ops[i]? =some o) (hg:o.guard=none) (ho:o.op= .box 37 (.tmp k)) (ha:a.tmps[k]?.getD undef=v) (hv:IsFm w F v) (h:∀w',AtF w' w.heap.size F→Below w.heap.size w w' →w'.heap.size=w.heap.size+1→J (a.put o.dst (.pointer (some ⟨w.heap.size,0,none⟩))) w'):wpOp Tryz.prog ops Q i J a w:=by
 obtain ⟨A2,c2,A5,c5,rfl,hF⟩:=hv
 exact op_box37 (x:=F) hi hg ho ha fun w' h1 h2 h3=>h w' ⟨A2,c2,A5,c5,h1,hF.below h2⟩ h2 h3
theorem op_box30v {t:S30} {k:Tmp} {v:Value} (hi:ops[i]? =some o) (hg:o.guard=none) (ho:o.op= .box 30 (.tmp k)) (ha:a.tmps[k]?.getD undef=v) (hv:IsT w t v) (h:∀w',AtT w' w.heap.size t→Below w.heap.size w w' →w'.heap.size=w.heap.size+1→J (a.put o.dst (.pointer (some ⟨w.heap.size,0,none⟩))) w'):wpOp Tryz.prog ops Q i J a w:=by
 obtain ⟨A1,c1,A2,c2,rfl,hT⟩:=hv
 exact op_box30 (t:=t) hi hg ho ha fun w' h1 h2 h3=>h w' ⟨A1,c1,A2,c2,h1,hT.below h2⟩ h2 h3
end
section
variable {ops:Array Oper} {Q:Exit→Act→World→Prop} {i:Nat} {o:Oper} {J:Act→World→Prop} {a:Act} {w:World}
theorem op_sentC {T:Lib.PrintTabs} {s:Sg} {t:S30} {k k2:Tmp} {v:Value} {c:Int} (hi:ops[i]? =some o) (hg:o.guard=none) (ho:o.op= .call {callee:= .value (.func 26),args:= #[.tmp k,.tmp k2],argTypes:= #[26,30]}) (ha:a.tmps[k]?.getD undef=sgV s) (ha2:a.tmps[k2]?.getD undef=v) (hc:codeOf (senP s t)=c) (hv:IsT w t v) (hT:Tabs T w) (hC:s.C w) (hsm:Sm t) (hn:nodes t≤500) (h:∀u w',IsF w' (fun k=>w.heap.size≤k) (senP s t) u→Below w.heap.size w w' →J (a.put o.dst (.tuple #[u,.int .i64 c])) w'):wpOp Tryz.prog ops Q i J a w:=by
 subst hc
 exact op_sent hi hg ho ha ha2 hv hT hC hsm hn h
end
def MeansOk (s:Sg) (t:S30) (F:S37):Prop:=senP s t= .error 2∨∃m,senP s t= .ok m∧m.f0=F
theorem wants_y {ops:Array Oper} {o:Oper} {tmps:Array Value} {j:Nat} {want:Bool} (hg:o.guard=some (j,want)) (h:((ops[j]?).bind (·.dst)).bind (tmps[·]?)=some (.bool want)):Region.wanted o (yielded ops tmps)=true:=(wanted_if hg h).trans (by cases want<;>rfl)
theorem wants_n {ops:Array Oper} {o:Oper} {tmps:Array Value} {j:Nat} {want:Bool} (hg:o.guard=some (j,want)) (h:((ops[j]?).bind (·.dst)).bind (tmps[·]?)=some (.bool (!want))):Region.wanted o (yielded ops tmps)=false:=(wanted_if hg h).trans (by cases want<;>rfl)
theorem wants_u {ops:Array Oper} {o:Oper} {tmps:Array Value} {j:Nat} {want:Bool} (hg:o.guard=some (j,want)) (h:((ops[j]?).bind (·.dst)).bind (tmps[·]?)=some undef):Region.wanted o (yielded ops tmps)=false:=by
 unfold Region.wanted
 rw[hg]
 show (yielded ops tmps j == some want)=false
 unfold yielded
 rw[h]
 rfl
theorem wp_nil {P:Program} {ops:Array Oper} {Q:Exit→Act→World→Prop} {a:Act} {w:World} (h:Q .normal a w):wpList P ops Q [] a w:=h
section
attribute [local irreducible] wpList
set_option maxHeartbeats 2000000 in
set_option maxRecDepth 100000 in
/-- means (31): yes. -/
theorem means_calls (T:Lib.PrintTabs) (s:Sg) (t:S30) (F:S37) (w:World) (vt vF:Value) (hT:Tabs T w) (hC:s.C w) (ht:IsT w t vt) (hF:IsFm w F vF) (hsm:Sm t) (hn:nodes t≤500) (h:MeansOk s t F):Calls Tryz.prog 31 #[sgV s,vt,vF] w fun e w' =>e= .returned (.bool true)∧Below w.heap.size w w' :=by
 obtain ⟨c,hc⟩:∃c,codeOf (senP s t)=c:=⟨_,rfl⟩
 refine calls_frN 36 (fun j=>match j with | 0=>sgV s | 1=>vt | 2=>vF | _=>undef) Tryz.func31 (show Tryz.f31.body=some _ from rfl) (by kernel_rfl) ?_
 refine wp_seq (wp_region_list (list_op (i:=0) rfl (op_box26 rfl rfl rfl rfl hC fun w1 hS b1 s1=>fop rfl (by decide) (list_op (i:=1) rfl (op_box30v rfl rfl rfl rfl (ht.below b1) fun w2 hA b2 s2=>fop rfl (by decide) (list_op (i:=2) rfl (op_box37v rfl rfl rfl rfl (hF.below (below_step b1 b2)) fun w3 hG b3 s3=>fop rfl (by decide) (list_op (i:=3) rfl (op_asgc rfl rfl rfl (fop rfl (by decide) (wp_nil ?_)))))))))))
 rw[s1]at hA s2 ⊢
 rw[s2]at hG ⊢
 replace hS:=(hS.below b2).below b3
 replace hA:=hA.below b3
 have hB:=below_step (below_step b1 b2) b3
 clear b1 b2 b3 ht hF
 refine wp_seq (wp_region_list (list_op (i:=0) rfl (op_loadS rfl rfl rfl rfl hS (fop rfl (by decide) (list_op (i:=1) rfl (op_loadT rfl rfl rfl rfl hA fun v1 h1=>fop rfl (by decide) (list_op (i:=2) rfl (op_sentC (T:=T) (s:=s) (t:=t) rfl rfl rfl rfl rfl hc h1 (hT.below hB) hS.2 hsm hn fun u w4 hu b4=>fop rfl (by decide) (list_op (i:=3) rfl (op_mv (v:= .tuple #[u,.int .i64 c]) rfl rfl rfl rfl (fop rfl (by decide) (list_op (i:=4) rfl (op_ext (v:=u) rfl rfl rfl rfl rfl (fop rfl (by decide) (list_op (i:=5) rfl (op_ext (v:= .int .i64 c) rfl rfl rfl rfl rfl (fop rfl (by decide) (list_op (i:=6) rfl (op_new37 rfl rfl rfl (fop rfl (by decide) (list_op (i:=7) rfl (op_store37 rfl rfl rfl rfl rfl rfl (heap_alloc_new _ _) ((hu.mono (ok' :=fun k=>k≠w4.heap.size) (fun k _ hk=>by omega)).below (below_alloc (Below.refl _ _) _)) fun w5 h5 b5 s5=>(list_op (i:=8) rfl (op_asg (v:= .int .i64 c) rfl rfl rfl rfl (fop rfl (by decide) (wp_nil ?_))))))))))))))))))))))))))
 replace hG:=(hG.below b4).below ((below_alloc (Below.refl w4.heap.size w4) zero37).trans (b5 w4.heap.size (Nat.le_refl _)))
 replace hB:=(below_step hB b4).trans (((below_alloc (Below.refl w4.heap.size w4) zero37).trans (b5 w4.heap.size (Nat.le_refl _))).mono (below_step hB b4).size)
 clear b4 b5 s5 hu
 rcases h with h | ⟨m,h,rfl⟩
 ·obtain rfl:2=c:=by rw[←hc,h];rfl
  refine wp_seq (wp_region_list (list_op (i:=0) rfl (op_mv (v:= .int .i64 2) rfl rfl rfl rfl (fop rfl (by decide) (list_op (i:=1) rfl (op_eqc (n:=2) (m:=2) (b:=true) rfl rfl (by decide) rfl (by decide) rfl (fop rfl (by decide) (list_op (i:=2) rfl (op_mv (v:= .bool true) rfl rfl rfl rfl (fop rfl (by decide) (list_op (i:=3) rfl (op_skip rfl (wants_n rfl rfl) (fop rfl (by decide) (list_op (i:=4) rfl (op_skip rfl (wants_n rfl rfl) (fop rfl (by decide) (list_op (i:=5) rfl (op_skip rfl (wants_n rfl rfl) (fop rfl (by decide) (list_op (i:=6) rfl (op_skip rfl (wants_u rfl rfl) (fop rfl (by decide) (list_op (i:=7) rfl (op_skip rfl (wants_u rfl rfl) (fop rfl (by decide) (list_op (i:=8) rfl (op_skip rfl (wants_u rfl rfl) (fop rfl (by decide) (list_op (i:=9) rfl (op_skip rfl (wants_n rfl rfl) (fop rfl (by decide) (list_op (i:=10) rfl (op_pickT (b:=true) (c:=false) rfl rfl rfl rfl (fun h=>by cases h) (fop rfl (by decide) (list_op (i:=11) rfl (op_mv (v:= .bool true) rfl rfl rfl rfl (fop rfl (by decide) (list_op (i:=12) rfl (op_skip rfl (wants_n rfl rfl) (fop rfl (by decide) (list_op (i:=13) rfl (op_skip rfl (wants_n rfl rfl) (fop rfl (by decide) (list_op (i:=14) rfl (op_skip rfl (wants_n rfl rfl) (fop rfl (by decide) (list_op (i:=15) rfl (op_skip rfl (wants_u rfl rfl) (fop rfl (by decide) (list_op (i:=16) rfl (op_skip rfl (wants_u rfl rfl) (fop rfl (by decide) (list_op (i:=17) rfl (op_skip rfl (wants_u rfl rfl) (fop rfl (by decide) (list_op (i:=18) rfl (op_skip rfl (wants_u rfl rfl) (fop rfl (by decide) (list_op (i:=19) rfl (op_skip rfl (wants_n rfl rfl) (fop rfl (by decide) (list_op (i:=20) rfl (op_pickT (b:=true) (c:=false) rfl rfl rfl rfl (fun h=>by cases h) (fop rfl (by decide) (list_op (i:=21) rfl (op_asg (v:= .bool true) rfl rfl rfl rfl (fop rfl (by decide) (wp_nil (wp_ret ?_)))))))))))))))))))))))))))))))))))))))))))))))))))))))))))))))))))))
  exact bodyPost_yes (show Tryz.f31.results= #[.tmp 6]from rfl) rfl rfl hB
 ·obtain rfl:0=c:=by rw[←hc,h];rfl
  rw[h]at h5
  refine wp_seq (wp_region_list (list_op (i:=0) rfl (op_mv (v:= .int .i64 0) rfl rfl rfl rfl (fop rfl (by decide) (list_op (i:=1) rfl (op_eqc (n:=0) (m:=2) (b:=false) rfl rfl (by decide) rfl (by decide) rfl (fop rfl (by decide) (list_op (i:=2) rfl (op_mv (v:= .bool false) rfl rfl rfl rfl (fop rfl (by decide) (list_op (i:=3) rfl (wp_guard rfl (wants_y rfl rfl) fun o2 h2=>op_mv (v:= .int .i64 0) h2 rfl rfl rfl (fop rfl (by decide) (list_op (i:=4) rfl (wp_guard rfl (wants_y rfl rfl) fun o2 h2=>op_eqc (n:=0) (m:=1) (b:=false) h2 rfl (by decide) rfl (by decide) rfl (fop rfl (by decide) (list_op (i:=5) rfl (wp_guard rfl (wants_y rfl rfl) fun o2 h2=>op_mv (v:= .bool false) h2 rfl rfl rfl (fop rfl (by decide) (list_op (i:=6) rfl (op_skip rfl (wants_n rfl rfl) (fop rfl (by decide) (list_op (i:=7) rfl (op_skip rfl (wants_n rfl rfl) (fop rfl (by decide) (list_op (i:=8) rfl (op_skip rfl (wants_n rfl rfl) (fop rfl (by decide) (list_op (i:=9) rfl (wp_guard rfl (wants_y rfl rfl) fun o2 h2=>op_pickA (b:=false) (c:=false) h2 rfl rfl rfl (fun h=>by cases h) (fop rfl (by decide) (list_op (i:=10) rfl (op_pickT (b:=false) (c:=false) rfl rfl rfl rfl (fun _=>rfl) (fop rfl (by decide) (list_op (i:=11) rfl (op_mv (v:= .bool false) rfl rfl rfl rfl (fop rfl (by decide) (list_op (i:=12) rfl (wp_guard rfl (wants_y rfl rfl) fun o2 h2=>op_mv (v:= .int .i64 0) h2 rfl rfl rfl (fop rfl (by decide) (list_op (i:=13) rfl (wp_guard rfl (wants_y rfl rfl) fun o2 h2=>op_eqc (n:=0) (m:=0) (b:=true) h2 rfl (by decide) rfl (by decide) rfl (fop rfl (by decide) (list_op (i:=14) rfl (wp_guard rfl (wants_y rfl rfl) fun o2 h2=>op_mv (v:= .bool true) h2 rfl rfl rfl (fop rfl (by decide) (list_op (i:=15) rfl (wp_guard rfl (wants_y rfl rfl) fun o2 h2=>op_loadF h2 rfl rfl rfl hG fun v6 h6=>fop rfl (by decide) (list_op (i:=16) rfl (wp_guard rfl (wants_y rfl rfl) fun o2 h2=>op_loadF h2 rfl rfl rfl h5 fun v7 h7=>fop rfl (by decide) (list_op (i:=17) rfl (wp_guard rfl (wants_y rfl rfl) fun o2 h2=>op_cmpF h2 rfl rfl rfl rfl h6 h7 fun w8 b8=>fop rfl (by decide) (list_op (i:=18) rfl (wp_guard rfl (wants_y rfl rfl) fun o2 h2=>op_eqc (n:=0) (m:=0) (b:=true) h2 rfl (by decide) rfl (by decide) rfl (fop rfl (by decide) (list_op (i:=19) rfl (wp_guard rfl (wants_y rfl rfl) fun o2 h2=>op_pickA (b:=true) (c:=true) h2 rfl rfl rfl (fun _=>rfl) (fop rfl (by decide) (list_op (i:=20) rfl (op_pickT (b:=false) (c:=true) rfl rfl rfl rfl (fun _=>rfl) (fop rfl (by decide) (list_op (i:=21) rfl (op_asg (v:= .bool true) rfl rfl rfl rfl (fop rfl (by decide) (wp_nil (wp_ret ?_))))))))))))))))))))))))))))))))))))))))))))))))))))))))))))))))))
  exact bodyPost_yes (show Tryz.f31.results= #[.tmp 6]from rfl) rfl rfl (below_step hB b8)
end
section
variable {ops:Array Oper} {Q:Exit→Act→World→Prop} {i:Nat} {o:Oper} {J:Act→World→Prop} {a:Act} {w:World}
theorem op_means {T:Lib.PrintTabs} {s:Sg} {t:S30} {F:S37} {k k2 k3:Tmp} {v v2:Value} {ts:Array TypeId} (hi:ops[i]? =some o) (hg:o.guard=none) (ho:o.op= .call {callee:= .value (.func 31),args:= #[.tmp k,.tmp k2,.tmp k3],argTypes:=ts}) (ha:a.tmps[k]?.getD undef=sgV s) (ha2:a.tmps[k2]?.getD undef=v) (ha3:a.tmps[k3]?.getD undef=v2) (hv:IsT w t v) (hF:IsFm w F v2) (hT:Tabs T w) (hC:s.C w) (hsm:Sm t) (hn:nodes t≤500) (hm:MeansOk s t F) (h:∀w',Below w.heap.size w w' →J (a.put o.dst (.bool true)) w'):wpOp Tryz.prog ops Q i J a w:=by
 refine op_call (f:=31) (args:= #[sgV s,v,v2]) hi (wanted_none hg) ?_ ((means_calls T s t F w v v2 hT hC hv hF hsm hn hm).mono ?_)
 ·have he:=enters_of Tryz.func31 (by kernel_rfl) rfl #[sgV s,v,v2] w
  unfold execOp
  rw[ho]
  go_simp
 ·rintro e w' ⟨rfl,hB⟩
  exact ⟨_,rfl,h w' hB⟩
end
end
theorem ch_ok {A B:Bool} {r:Option S70} {m:S70} (h:chP A B r= .ok m):A=true∧B=true∧r=some m∧m.f3=false∧m.f1≤200∧m.f2≤32:=by
 unfold chP at h
 cases A<;>cases B<;>simp at h
 cases r with
 |none=>simp at h
 |some k =>
  simp only at h
  split at h
  ·cases h
  ·rename_i h3
   split at h
   ·cases h
   ·rename_i h4
    injection h with h
    subst h
    exact ⟨rfl,rfl,rfl,by simpa using h3,by omega,by omega⟩
theorem ch_some {m:S70} (h:m.f3=false):chP true true (some m)= .error 2∨chP true true (some m)= .ok m:=by
 unfold chP
 rw[if_neg (by decide),if_neg (by decide)]
 simp only[h]
 by_cases h4:200<m.f1∨32<m.f2
 ·left;rw[if_neg (by decide),if_pos h4]
 ·right;rw[if_neg (by decide),if_neg h4]
def opF (op:Int) (l:List S37):S37:=⟨op,⟨#[]⟩,[],0,0,l⟩
theorem means_of {s:Sg} {t:S30} {m:S70} {F:S37} (h1:sigOk s.ss s.cs s.ps=true) (h2:nodes t≤60) (h3:formedP structL t cS=true) (h4:resP t=true) (h5:sentP s 60 t=some m) (h6:m.f3=false) (h7:m.f0=F):MeansOk s t F:=by
 unfold MeansOk senP
 rw[h1,h3,h4,h5,decide_eq_true h2]
 rcases ch_some h6 with h | h
 ·exact .inl h
 ·exact .inr ⟨m,h,h7⟩
theorem sen_parts {s:Sg} {t:S30} {m:S70} (h:senP s t= .ok m):sigOk s.ss s.cs s.ps=true∧nodes t≤60∧formedP structL t cS=true∧resP t=true∧sentP s 60 t=some m∧m.f3=false:=by
 unfold senP at h
 obtain ⟨hA,hB,hr,h3,_,_⟩:=ch_ok h
 simp only[Bool.and_eq_true,decide_eq_true_eq]at hA
 exact ⟨hA.1.1,hA.1.2,hA.2,hB,hr,h3⟩
theorem formed_2 {f A B C:ByteArray} {p q:S30} (hc:isCat C=true) (h:fnOf structL f=some ⟨f,[A,B],C,0⟩) (hp:formedP structL p A=true) (hq:formedP structL q B=true):formedP structL ⟨f,[],[p,q]⟩ C=true:=by
 rw[formedP_cat hc,show S30.f0 ⟨f,[],[p,q]⟩=f from rfl,h]
 show (headFits ⟨f,[A,B],C,0⟩ C 0 2 && (true && formedL structL [p,q] [A,B]))=true
 rw[show headFits ⟨f,[A,B],C,0⟩ C 0 2=true from by simp[headFits]]
 simp only[formedL]
 show (true && (true && (formedP structL p A && (formedP structL q B && true))))=true
 rw[hp,hq]
 rfl
theorem with_inv {np:S30}:∀(n:Nat) (t x:S30),nodes t≤n→withP t np=some x→(formedP structL x cS=true→formedP structL np cNP=true)∧(resP x=true→resP np=true)
 |0,t,_,h,_=>absurd h (by have:=nodes_eq t;omega)
 |n+1,t,x,h,hx=>by
  by_cases hl:t.f2.length=0
  ·rw[withP_none hl]at hx;cases hx
  ·rw[withP_some (by omega)]at hx
   by_cases h1:modalF t.f0=true
   ·rw[if_pos h1]at hx
    injection hx with hx
    subst hx
    exact ⟨fun hf=>(formed_swap (x:=np) hf (by simp) (fun g hg h0=>modal_args h1 hg h0)).1,fun hr=>res_kid (i:=0) hr (by simp)⟩
   ·rw[if_neg h1]at hx
    by_cases h2:passF t.f0=true
    ·rw[if_pos h2]at hx
     obtain ⟨k,hk,e⟩:=map_some' hx
     subst e
     have ih:=with_inv n _ k (nodes_kid h (by omega)) hk
     exact ⟨fun hf=>ih.1 (formed_swap (x:=np) hf (by simp) (fun g hg h0=>pass_args h2 hg h0)).1,fun hr=>ih.2 (res_kid (i:=0) hr (by simp))⟩
    ·rw[if_neg h2]at hx;cases hx
theorem fn_also:fnOf structL nAlso=some ⟨nAlso,[cS,cNP],cS,0⟩:=by kernel_rfl
theorem fn_both:fnOf structL nBoth=some ⟨nBoth,[cNP,cNP],cNP,0⟩:=by kernel_rfl
theorem res_2 {f:ByteArray} {p q:S30} (hf:notPro f=true) (hp:resP p=true) (hq:resP q=true):resP ⟨f,[],[p,q]⟩=true:=by
 rw[resP_eq]
 show (notPro f && resL [p,q])=true
 rw[hf];simp only[resL,hp,hq,Bool.and_self]
theorem also_ok {s:Sg} {x y b:S30} {m1 m2:S70} (hx:senP s x= .ok m1) (hy:senP s y= .ok m2) (hw:withP x b=some y) (hn:nodes x+nodes b+1≤60):MeansOk s ⟨nAlso,[],[x,b]⟩ (opF 5 [m1.f0,m2.f0]):=by
 obtain ⟨a1,a2,a3,a4,a5,a6⟩:=sen_parts hx
 obtain ⟨b1,b2,b3,b4,b5,b6⟩:=sen_parts hy
 obtain ⟨i1,i2⟩:=with_inv (nodes x) x y (Nat.le_refl _) hw
 have hny:=with_nodes b (nodes x) x y (Nat.le_refl _) hw
 refine means_of (m:=bothP m1 m2) a1 (by show nodes x+(nodes b+0)+1≤60;omega) (formed_2 isCat_S fn_also a3 (i1 b3)) (res_2 (by decide +kernel) a4 (i2 b4)) ?_ (by show (m1.f3 || (m2.f3 || false))=false;rw[a6,b6];rfl) rfl
 rw[sentP]
 have hne:∀n:ByteArray,¬nAlso=n→¬(S30.f0 ⟨nAlso,[],[x,b]⟩)=n:=fun _ h=>h
 rw[if_neg (hne _ (by decide +kernel)),if_neg (hne _ (by decide +kernel)),if_neg (hne _ (by decide +kernel)),if_neg (hne _ (by decide +kernel)),if_neg (hne _ (by decide +kernel)),if_neg (hne _ (by decide +kernel)),if_neg (hne _ (by decide +kernel)),if_neg (hne _ (by decide +kernel)),if_neg (hne _ (by decide +kernel)),if_neg (hne _ (by decide +kernel)),if_neg (hne _ (by decide +kernel))]
 show ((withP x b).bind fun o=>(sentP s 59 x).bind fun x=>(sentP s 59 o).map (bothP x))=_
 rw[hw]
 show ((sentP s 59 x).bind fun x=>(sentP s 59 y).map (bothP x))=_
 rw[sentP_fuel s 59 60 x (by omega) (by omega),sentP_fuel s 59 60 y (by omega) (by omega),a5,b5]
 rfl
theorem sent_modal (s:Sg) {f:ByteArray} (hf:modalF f=true):∃op neg,∀t:S30,t.f0=f→sentP s 60 t=modalP s op neg t:=by
 rcases modal_names hf with rfl | rfl | rfl | rfl
 ·exact ⟨0,false,fun t h=>by rw[sentP,if_pos h]⟩
 ·exact ⟨11,false,fun t h=>by rw[sentP,if_neg (by rw[h];decide +kernel),if_pos h]⟩
 ·exact ⟨11,true,fun t h=>by rw[sentP,if_neg (by rw[h];decide +kernel),if_neg (by rw[h];decide +kernel),if_pos h]⟩
 ·exact ⟨12,false,fun t h=>by rw[sentP,if_neg (by rw[h];decide +kernel),if_neg (by rw[h];decide +kernel),if_neg (by rw[h];decide +kernel),if_pos h]⟩
def npB (a b:S30):S30:=⟨nBoth,[],[a,b]⟩
theorem both_ok {s:Sg} {t a b x y:S30} {m1 m2:S70} (hm:modalF t.f0=true) (ha:withP t a=some x) (hb:withP t b=some y) (hx:senP s x= .ok m1) (hy:senP s y= .ok m2) (hn:nodes t+nodes a+nodes b≤58):MeansOk s ((withP t (npB a b)).getD z30) (opF 5 [m1.f0,m2.f0]):=by
 obtain ⟨a1,a2,a3,a4,a5,a6⟩:=sen_parts hx
 obtain ⟨b1,b2,b3,b4,b5,b6⟩:=sen_parts hy
 obtain ⟨i1,i2⟩:=with_inv (nodes t) t x (Nat.le_refl _) ha
 obtain ⟨j1,j2⟩:=with_inv (nodes t) t y (Nat.le_refl _) hb
 by_cases hl:t.f2.length=0
 ·rw[withP_none hl]at ha;cases ha
 ·have hz:withP t (npB a b)=some ⟨t.f0,t.f1,npB a b::t.f2.drop 1⟩:=by rw[withP_some (by omega),if_pos hm]
  rw[withP_some (by omega),if_pos hm]at ha hb
  injection ha with ha
  injection hb with hb
  have hnz:=with_nodes (npB a b) (nodes t) t _ (Nat.le_refl _) hz
  have hnB:nodes (npB a b)=nodes a+(nodes b+0)+1:=rfl
  rw[hz,Option.getD_some]
  subst ha
  subst hb
  obtain ⟨op,neg,hs⟩:=sent_modal s hm
  rw[hs ⟨t.f0,t.f1,a::t.f2.drop 1⟩ rfl]at a5
  rw[hs ⟨t.f0,t.f1,b::t.f2.drop 1⟩ rfl]at b5
  unfold modalP at a5 b5
  obtain ⟨v,hv,a5⟩:=bind_some' a5
  obtain ⟨v',hv',b5⟩:=bind_some' b5
  have he:v=v' :=Option.some.inj (hv.symm.trans hv')
  subst he
  have hf:=(formed_swap (x:=npB a b) a3 (by simp) (fun g hg h0=>modal_args hm hg h0)).2 (formed_2 isCat_NP fn_both (i1 a3) (j1 b3))
  have hr:resP ⟨t.f0,t.f1,npB a b::t.f2.drop 1⟩=true:=by
   rw[resP_eq,Bool.and_eq_true]at a4 ⊢
   refine ⟨a4.1,?_⟩
   have h2:=a4.2
   show resL (npB a b::t.f2.drop 1)=true
   have h3:resL (a::t.f2.drop 1)=true:=h2
   rw[resL,Bool.and_eq_true]at h3 ⊢
   exact ⟨res_2 (by decide +kernel) (i2 (by rw[resP_eq,Bool.and_eq_true];exact a4)) (j2 b4),h3.2⟩
  refine means_of (m:=bothP m1 m2) a1 (by show nodes _≤60;omega) hf hr ?_ (by show (m1.f3 || (m2.f3 || false))=false;rw[a6,b6];rfl) rfl
  rw[hs ⟨t.f0,t.f1,npB a b::t.f2.drop 1⟩ rfl]
  unfold modalP
  have hv2:verbP s (nodes (kidOf ⟨t.f0,t.f1,npB a b::t.f2.drop 1⟩ 1)) (kidOf ⟨t.f0,t.f1,npB a b::t.f2.drop 1⟩ 1)=some v:=hv
  rw[hv2]
  show applyP s (nodes a+(nodes b+0)+1) (npB a b) 0 (modP op neg v)=_
  rw[applyP,if_neg (by rw[isF_f (n:=nBoth) rfl (by decide +kernel)];decide),if_pos (isF_t (n:=nBoth) rfl (by decide +kernel))]
  have ra:=i2 a4
  have rb:=j2 b4
  have ea:=(mean_fuel s (nodes a+(nodes b+0)) (nodes a)).2.2 a (i1 a3) ra (by omega) (by omega) 0 (modP op neg v)
  have eb:=(mean_fuel s (nodes a+(nodes b+0)) (nodes b)).2.2 b (j1 b3) rb (by omega) (by omega) 0 (modP op neg v)
  have a5:applyP s (nodes a) a 0 (modP op neg v)=some m1:=a5
  have b5:applyP s (nodes b) b 0 (modP op neg v)=some m2:=b5
  show ((applyP s (nodes a+(nodes b+0)) a 0 (modP op neg v)).bind fun x=>(applyP s (nodes a+(nodes b+0)) b 0 (modP op neg v)).bind fun y=>some (bothP x y))=_
  rw[ea,eb,a5,b5]
  rfl
section
attribute [local go_sem] Oper.semAt_some
section
variable {ops:Array Oper} {Q:Exit→Act→World→Prop} {i:Nat} {o:Oper} {J:Act→World→Prop} {a:Act} {w:World}
theorem op_st30v {t:S30} {k k2:Tmp} {g:Nat} {v:Value} {w0:World} (hi:ops[i]? =some o) (hg:o.guard=none) (hd:o.dst=none) (ho:o.op= .store 30 (.tmp k) (.tmp k2)) (ha:a.tmps[k]?.getD undef= .pointer (some ⟨g,0,none⟩)) (ha2:a.tmps[k2]?.getD undef=v) (hv:IsT w0 t v) (hB:Below w0.heap.size w0 w) (hge:w0.heap.size≤g) (hz:w.heap[g]? =some (.cells #[.string ⟨#[]⟩,.slice none 0 0,.slice none 0 0] 30 (0,0)))
  (h:∀w',AtT w' g t→Below w0.heap.size w0 w' →J a w'):wpOp Tryz.prog ops Q i J a w:=by
 obtain ⟨A1,c1,A2,c2,rfl,hT⟩:=hv
 exact op_st30 hi hg hd ho ha ha2 hz fun w' h1 h2 h3=>h w' ⟨A1,c1,A2,c2,h1,hT.below (hB.trans (h3 _ hge))⟩ (hB.trans (h3 _ hge))
end
section
attribute [local irreducible] wpList
set_option maxHeartbeats 4000000 in
set_option maxRecDepth 100000 in
theorem large_v {t:S30} {v:Value} {w:World} (n:Int) (h0:0≤n) (h1:n≤1000) (hm:nodes t≤2000000) (h:IsT w t v):Calls Tryz.prog 15 #[v,.int .i64 n] w fun e w' =>∃b,e= .returned (.bool b)∧(b=false→(nodes t:Int)≤n)∧Below w.heap.size w w' :=by
 obtain ⟨A1,c1,A2,c2,rfl,hT⟩:=h
 exact large_calls t n h0 h1 hm w A1 c1 A2 c2 hT
end
end
section
attribute [local go_sem] Oper.semAt_some
theorem senP_err {s:Sg} {t:S30} {c:Int} (h:senP s t= .error c):(c != 0)=true:=by
 unfold senP at h
 generalize (sigOk s.ss s.cs s.ps && decide (nodes t≤60) && formedP structL t cS)=A at h
 generalize resP t=B at h
 generalize sentP s 60 t=r at h
 unfold chP at h
 cases A with
 |false=>cases h;rfl
 |true =>
  cases B with
  |false=>cases h;rfl
  |true =>
   rw[if_neg (by decide),if_neg (by decide)]at h
   cases r with
   |none=>cases h;rfl
   |some m =>
    simp only at h
    split at h
    ·cases h;rfl
    ·split at h
     ·cases h;rfl
     ·cases h
section
attribute [local irreducible] wpList
theorem sm_2 {f:ByteArray} {p q:S30} (hf:f.size≤2000000) (hp:Sm p) (hq:Sm q):Sm ⟨f,[],[p,q]⟩:=(Sm.eq _).2 ⟨hf,Nat.zero_le _,by show 2≤2000000;omega,by simp only[SmL];exact ⟨hp,hq,trivial⟩⟩
end
end
end Go.Proofs.YtcfjomnihhdpaaaGreatDoor.A
