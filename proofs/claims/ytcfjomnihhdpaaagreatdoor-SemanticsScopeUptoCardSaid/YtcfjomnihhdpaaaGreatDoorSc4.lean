/-
  A part of the proof: Q33, Q34, Q35, Q37.
-/
import Derived.Test.YtcfjomnihhdpaaaGreatDoorSc3
namespace Go.Proofs.YtcfjomnihhdpaaaGreatDoor.A
open Go.RowKit Go.Proofs.YtcfjomnihhdpaaaGreatDoorW.PrintWords Go.Proofs.YtcfjomnihhdpaaaGreatDoorW.PrintLast Go.Proofs.YtcfjomnihhdpaaaGreatDoorW.PrintMore
set_option linter.unusedVariables false
set_option linter.unusedSimpArgs false
section
theorem nanI (x:Int) (w:World):Calls Tryz.prog 110 #[.int .i64 x] w fun e w' =>e= .returned (.bool false)∧w' =w:=by
 go_enter Tryz.func110,Tryz.ntmps110
 go_wp2
 go_ret
 exact ⟨by simp,rfl⟩
theorem nanS (x:ByteArray) (w:World):Calls Tryz.prog 111 #[.string x] w fun e w' =>e= .returned (.bool false)∧w' =w:=by
 go_enter Tryz.func111,Tryz.ntmps111
 go_wp2
 go_ret
 exact ⟨by simp,rfl⟩
theorem cmpI (x:Int) (w:World):Calls Tryz.prog 66 #[.int .i64 x,.int .i64 x] w fun e w' =>e= .returned (.int .i64 0)∧Below w.heap.size w w' :=by
 have C:=Aside0.mk (nanI x)
 have h:(x<x)=False:=eq_false (by omega)
 go_enter Tryz.func66,Tryz.ntmps66
 go_wp2_with (go_at_call 110;refine (C.out _).mono ?_;rintro e w2 ⟨rfl,rfl⟩)
 go_ret
 exact ⟨rfl,Below.refl _ _⟩
theorem less_self:∀l:List UInt8,Op.bytesLess l l=false
 | []=>rfl
 |a::r=>by simp[Op.bytesLess,less_self r]
theorem cmpS (x:ByteArray) (w:World):Calls Tryz.prog 67 #[.string x,.string x] w fun e w' =>e= .returned (.int .i64 0)∧Below w.heap.size w w' :=by
 have C:=Aside0.mk (nanS x)
 have h:=less_self x.toList
 go_enter Tryz.func67,Tryz.ntmps67
 go_wp2_with (go_at_call 111;refine (C.out _).mono ?_;rintro e w2 ⟨rfl,rfl⟩)
 go_ret
 exact ⟨rfl,Below.refl _ _⟩
theorem orI (n:Nat) (hn:n≤100) (w:World) (A:Option Addr) (c:Nat) (h:(Kd.int .i64).C w A n (List.replicate n 0)):Calls Tryz.prog 65 #[.slice A n c] w fun e w' =>e= .returned (.int .i64 0)∧Below w.heap.size w w' :=by
 have HA:=Aside0.mk h
 clear h
 go_enter Tryz.func65,Tryz.ntmps65
 go_wp2
 go_loopw [8] (fun i w' =>∃y:Int,i= .int .i64 y∧0≤y∧y≤n∧w' =w) (fun i _=>n-(intOf i).toNat)
 case atStart=>exact ⟨0,rfl,Int.le_refl _,Int.natCast_nonneg _,rfl⟩
 case round =>
  obtain ⟨y,rfl,hy,hyk,rfl⟩:=hrel
  by_cases hyl:y<n
  ·obtain ⟨ad,e,x0⟩:=Kd.at_int HA.out y hy hyl
   cases e
   rw[show rd (List.replicate n 0) y=0 by unfold rd;rw[List.getD_eq_getElem?_getD,List.getElem?_replicate,if_pos (by omega)];rfl]at x0
   go_wp2
   go_roundw
   case rel=>exact ⟨y+1,rfl,by omega,by omega,by simp⟩
   case measure=>simp[intOf];omega
  ·go_wp2
   go_ret
   exact ⟨rfl,Below.refl _ _⟩
section
variable {ops:Array Oper} {Q:Exit→Act→World→Prop} {i:Nat} {o:Oper} {J:Act→World→Prop} {a:Act} {w:World}
attribute [local go_sem] Oper.semAt_some
theorem op_fa59 {k:Tmp} {b m:Nat} (hi:ops[i]? =some o) (hg:o.guard=none) (hm:m<3) (ho:o.op= .fieldAddr 59 (.tmp k) m) (ha:a.tmps[k]?.getD undef= .pointer (some ⟨b,0,none⟩)) (h:J (a.put o.dst (.pointer (some ⟨b,m,none⟩))) w):wpOp Tryz.prog ops Q i J a w:=by
 rcases (show m=0∨m=1∨m=2 by omega)with rfl | rfl | rfl
 all_goals (
  refine op_value hi (wanted_none hg) (w' :=w) ?_ h
  unfold execOp
  rw[ho]
  go_simp)
theorem op_fa37 {k:Tmp} {b m:Nat} (hi:ops[i]? =some o) (hg:o.guard=none) (hm:m<6) (ho:o.op= .fieldAddr 37 (.tmp k) m) (ha:a.tmps[k]?.getD undef= .pointer (some ⟨b,0,none⟩)) (h:J (a.put o.dst (.pointer (some ⟨b,m,none⟩))) w):wpOp Tryz.prog ops Q i J a w:=by
 rcases (show m=0∨m=1∨m=2∨m=3∨m=4∨m=5 by omega)with rfl | rfl | rfl | rfl | rfl | rfl
 all_goals (
  refine op_value hi (wanted_none hg) (w' :=w) ?_ h
  unfold execOp
  rw[ho]
  go_simp)
theorem op_ld1 {T:TypeId} {k:Tmp} {b m:Nat} {v:Value} (hi:ops[i]? =some o) (hg:o.guard=none) (hT:T=3∨T=9∨T=34∨T=35) (ho:o.op= .load T (.tmp k)) (ha:a.tmps[k]?.getD undef= .pointer (some ⟨b,m,none⟩)) (hc:w.cell? ⟨b,m,none⟩=some v) (h:J (a.put o.dst v) w):wpOp Tryz.prog ops Q i J a w:=by
 rcases hT with rfl | rfl | rfl | rfl
 all_goals (
  refine op_value hi (wanted_none hg) (w' :=w) ?_ h
  unfold execOp
  rw[ho]
  go_simp)
theorem op_valC {f:FuncId} {xs:Array Operand} {vs:Array Value} {ts:Array TypeId} {v:Value} (hi:ops[i]? =some o) (hg:o.guard=none) (hen:Enters Tryz.prog f) (ho:o.op= .call {callee:= .value (.func f),args:=xs,argTypes:=ts}) (hx:xs.map a.eval=vs) (hc:Calls Tryz.prog f vs w fun e w' =>e= .returned v∧Below w.heap.size w w') (h:∀w',Below w.heap.size w w' →J (a.put o.dst v) w'):wpOp Tryz.prog ops Q i J a w:=by
 refine op_call hi (wanted_none hg) ?_ (hc.mono ?_)
 ·have he:=hen vs w
  subst hx
  unfold execOp
  rw[ho]
  simp[go_sem,resolve,Deferred.ofValue,invoke,he]
 ·rintro e w' ⟨rfl,hb⟩
  exact ⟨_,rfl,h w' hb⟩
def Kn.zs (n:Nat):Kn:=⟨fun v w=>∃A c,v= .slice A n c∧(Kd.int .i64).C w A n (List.replicate n 0),fun _ _ _ h hB=>by
 obtain ⟨A,c,e,h⟩:=h
 exact ⟨A,c,e,Kd.C_below h hB⟩⟩
theorem zs_new (w:World) (n:Nat) (hn:n≤100):(Kn.zs n).In (.slice (some ⟨w.heap.size,0,none⟩) n n) (w.alloc (.cells (List.replicate n (Value.int .i64 0)).toArray 3)):=by
 obtain ⟨A,c,he,hC⟩:=own_reads_row (R:=fun (x:Int) (cs:List Value)=>cs=[.int .i64 x]) (ps:=List.replicate n 0) (block_own (w:=w.alloc (.cells (List.replicate n (Value.int .i64 0)).toArray 3)) (cs:=List.replicate n (Value.int .i64 0)) (size:=1) (n:=n) (heap_alloc_new w _) (by simp) (by omega)) (by have:=Kd.reps_scalar (enc:=Value.int .i64) (List.replicate n 0);rwa [encs,List.map_replicate]at this) (by simp)
 injection he with he1 he2 he3
 subst he1
 exact ⟨_,_,rfl,hC⟩
theorem op_zs3 {k0 k1 k2:Tmp} (hi:ops[i]? =some o) (hg:o.guard=none) (ho:o.op= .buildSlice 27 3 #[(0,.tmp k0),(1,.tmp k1),(2,.tmp k2)]) (h0:a.tmps[k0]?.getD undef= .int .i64 0) (h1:a.tmps[k1]?.getD undef= .int .i64 0) (h2:a.tmps[k2]?.getD undef= .int .i64 0) (h:∀v w',(Kn.zs 3).In v w' →Below w.heap.size w w' →J (a.put o.dst v) w'):wpOp Tryz.prog ops Q i J a w:=by
 refine op_value hi (wanted_none hg) ?_ (h _ _ (zs_new w 3 (by decide)) (below_alloc (Below.refl _ _) _))
 unfold execOp
 rw[ho]
 go_simp
theorem op_zs6 {k0 k1 k2 k3 k4 k5:Tmp} (hi:ops[i]? =some o) (hg:o.guard=none) (ho:o.op= .buildSlice 27 6 #[(0,.tmp k0),(1,.tmp k1),(2,.tmp k2),(3,.tmp k3),(4,.tmp k4),(5,.tmp k5)]) (h0:a.tmps[k0]?.getD undef= .int .i64 0) (h1:a.tmps[k1]?.getD undef= .int .i64 0) (h2:a.tmps[k2]?.getD undef= .int .i64 0) (h3:a.tmps[k3]?.getD undef= .int .i64 0) (h4:a.tmps[k4]?.getD undef= .int .i64 0) (h5:a.tmps[k5]?.getD undef= .int .i64 0) (h:∀v w',(Kn.zs 6).In v w' →Below w.heap.size w w' →J (a.put o.dst v) w'):wpOp Tryz.prog ops Q i J a w:=by
 refine op_value hi (wanted_none hg) ?_ (h _ _ (zs_new w 6 (by decide)) (below_alloc (Below.refl _ _) _))
 unfold execOp
 rw[ho]
 go_simp
end
section
variable {ops:Array Oper} {Q:Exit→Act→World→Prop} {i:Nat} {o:Oper} {J:Act→World→Prop} {a:Act} {w:World}
attribute [local go_sem] Oper.semAt_some
theorem op_box59 {k:Tmp} {x:S59} (hi:ops[i]? =some o) (hg:o.guard=none) (ho:o.op= .box 59 (.tmp k)) (ha:a.tmps[k]?.getD undef= .agg #[.int .i64 x.f0,.int .i64 x.f1,.string x.f2]) (h:∀w',w'.heap[w.heap.size]? =some (.cells #[.int .i64 x.f0,.int .i64 x.f1,.string x.f2] 59 (0,0))→Below w.heap.size w w' →w'.heap.size=w.heap.size+1→J (a.put o.dst (.pointer (some ⟨w.heap.size,0,none⟩))) w'):wpOp Tryz.prog ops Q i J a w:=by
 refine op_value hi (wanted_none hg) (w' :=w.alloc (.cells #[.int .i64 x.f0,.int .i64 x.f1,.string x.f2] 59)) ?_ (h _ (blk_new w _) (below_alloc (Below.refl _ _) _) (by simp))
 unfold execOp
 rw[ho]
 go_simp
theorem op_box37 {k:Tmp} {x:S37} {A2:Option Addr} {c2:Nat} {A5:Option Addr} {c5:Nat} (hi:ops[i]? =some o) (hg:o.guard=none) (ho:o.op= .box 37 (.tmp k)) (ha:a.tmps[k]?.getD undef= .agg #[.int .i64 x.f0,.string x.f1,.slice A2 x.f2.length c2,.int .i64 x.f3,.int .i64 x.f4,.slice A5 x.f5.length c5]) (h:∀w',w'.heap[w.heap.size]? =some (.cells #[.int .i64 x.f0,.string x.f1,.slice A2 x.f2.length c2,.int .i64 x.f3,.int .i64 x.f4,.slice A5 x.f5.length c5] 37 (0,0))→Below w.heap.size w w' →w'.heap.size=w.heap.size+1→J (a.put o.dst (.pointer (some ⟨w.heap.size,0,none⟩))) w'):wpOp Tryz.prog ops Q i J a w:=by
 refine op_value hi (wanted_none hg) (w' :=w.alloc (.cells #[.int .i64 x.f0,.string x.f1,.slice A2 x.f2.length c2,.int .i64 x.f3,.int .i64 x.f4,.slice A5 x.f5.length c5] 37)) ?_ (h _ (blk_new w _) (below_alloc (Below.refl _ _) _) (by simp))
 unfold execOp
 rw[ho]
 go_simp
end
set_option maxHeartbeats 2000000 in
set_option maxRecDepth 100000 in
theorem refs_calls (r:S59) (w:World):Calls Tryz.prog 69 #[.agg #[.int .i64 r.f0,.int .i64 r.f1,.string r.f2],.agg #[.int .i64 r.f0,.int .i64 r.f1,.string r.f2]] w fun e w' =>e= .returned (.int .i64 0)∧Below w.heap.size w w' :=by
 refine calls_frN 22 (fun j=>match j with | 0=> .agg #[.int .i64 r.f0,.int .i64 r.f1,.string r.f2] | 1=> .agg #[.int .i64 r.f0,.int .i64 r.f1,.string r.f2] | _=>undef) Tryz.func69 (show Tryz.f69.body=some _ from rfl) (by kernel_rfl) ?_
 refine wp_seq (wp_region_list (list_op (i:=0) rfl (op_box59 rfl rfl rfl rfl fun u0 xa h0 s0=>fop rfl (by decide) (list_op (i:=1) rfl (op_box59 rfl rfl rfl rfl fun u1 xb h1 s1=>fop rfl (by decide) (list_op (i:=2) rfl (op_asgc rfl rfl rfl (fop rfl (by decide) ?_))))))))
 rw[s0]at xb s1 ⊢
 replace xa:=blk_below xa h1
 have hB:=below_step h0 h1
 have bw:∀{V},Below u1.drew.heap.size u1.drew V→Below u1.heap.size u1 V:=fun hB=>below_step (below_drew (Below.refl _ _)) hB
 refine wp_seq (region_kn0 22 (.is (.pointer (some ⟨w.heap.size,0,none⟩)):: .is (.int .i64 r.f0):: .is (.pointer (some ⟨(w.heap.size+1),0,none⟩)):: .is (.int .i64 r.f0):: .is (.int .i64 0):: .is (.pointer (some ⟨w.heap.size,1,none⟩)):: .is (.int .i64 r.f1):: .is (.pointer (some ⟨(w.heap.size+1),1,none⟩)):: .is (.int .i64 r.f1):: .is (.int .i64 0):: .is (.pointer (some ⟨w.heap.size,2,none⟩)):: .is (.string r.f2):: .is (.pointer (some ⟨(w.heap.size+1),2,none⟩)):: .is (.string r.f2):: .is (.int .i64 0):: .zs 3:: .is (.int .i64 0):: .is (.int .i64 0)::[]) [5,6,7,8,9,10,11,12,13,14,15,16,17,18,19,20,21,4] _ u1 (by kernel_rfl) (by kernel_rfl) ⟨
  fun q V J hB hq h hi=>op_fa59 hi rfl (by decide) rfl rfl (h _ _ rfl (.refl _ _)),
  fun q V J hB hq h hi=>op_ld1 hi rfl (by decide) rfl (hq 0 rfl) (blk_cell (blk_below xa (bw hB)) 0) (h _ _ rfl (.refl _ _)),
  fun q V J hB hq h hi=>op_fa59 hi rfl (by decide) rfl rfl (h _ _ rfl (.refl _ _)),
  fun q V J hB hq h hi=>op_ld1 hi rfl (by decide) rfl (hq 2 rfl) (blk_cell (blk_below xb (bw hB)) 0) (h _ _ rfl (.refl _ _)),
  fun q V J hB hq h hi=>op_valC hi rfl (enters_of Tryz.func66 (by kernel_rfl) rfl) rfl (by simp only[List.map_toArray,List.map_cons,List.map_nil];show #[q 1,q 3]=_;rw[show q 1=_ from hq 1 rfl,show q 3=_ from hq 3 rfl]) (cmpI r.f0 V) fun w1 hb=>h _ _ rfl hb,
  fun q V J hB hq h hi=>op_fa59 hi rfl (by decide) rfl rfl (h _ _ rfl (.refl _ _)),
  fun q V J hB hq h hi=>op_ld1 hi rfl (by decide) rfl (hq 5 rfl) (blk_cell (blk_below xa (bw hB)) 1) (h _ _ rfl (.refl _ _)),
  fun q V J hB hq h hi=>op_fa59 hi rfl (by decide) rfl rfl (h _ _ rfl (.refl _ _)),
  fun q V J hB hq h hi=>op_ld1 hi rfl (by decide) rfl (hq 7 rfl) (blk_cell (blk_below xb (bw hB)) 1) (h _ _ rfl (.refl _ _)),
  fun q V J hB hq h hi=>op_valC hi rfl (enters_of Tryz.func66 (by kernel_rfl) rfl) rfl (by simp only[List.map_toArray,List.map_cons,List.map_nil];show #[q 6,q 8]=_;rw[show q 6=_ from hq 6 rfl,show q 8=_ from hq 8 rfl]) (cmpI r.f1 V) fun w1 hb=>h _ _ rfl hb,
  fun q V J hB hq h hi=>op_fa59 hi rfl (by decide) rfl rfl (h _ _ rfl (.refl _ _)),
  fun q V J hB hq h hi=>op_ld1 hi rfl (by decide) rfl (hq 10 rfl) (blk_cell (blk_below xa (bw hB)) 2) (h _ _ rfl (.refl _ _)),
  fun q V J hB hq h hi=>op_fa59 hi rfl (by decide) rfl rfl (h _ _ rfl (.refl _ _)),
  fun q V J hB hq h hi=>op_ld1 hi rfl (by decide) rfl (hq 12 rfl) (blk_cell (blk_below xb (bw hB)) 2) (h _ _ rfl (.refl _ _)),
  fun q V J hB hq h hi=>op_valC hi rfl (enters_of Tryz.func67 (by kernel_rfl) rfl) rfl (by simp only[List.map_toArray,List.map_cons,List.map_nil];show #[q 11,q 13]=_;rw[show q 11=_ from hq 11 rfl,show q 13=_ from hq 13 rfl]) (cmpS r.f2 V) fun w1 hb=>h _ _ rfl hb,
  fun q V J hB hq h hi=>op_zs3 hi rfl rfl (hq 4 rfl) (hq 9 rfl) (hq 14 rfl) h,
  fun q V J hB hq h hi=>by obtain ⟨A,c,e,hz⟩:=hq 15 rfl;exact op_valC hi rfl (enters_of Tryz.func65 (by kernel_rfl) rfl) rfl (by simp only[List.map_toArray,List.map_cons,List.map_nil];show #[q 15]=_;rw[show q 15=_ from e]) (orI 3 (by decide) V A c hz) fun w1 hb=>h _ _ rfl hb,
  fun q V J hB hq h hi=>op_asg hi rfl rfl (hq 16 rfl) (h _ _ rfl (.refl _ _)),trivial⟩ ?_)
 intro q V hB9 hx
 refine wp_ret (bodyPost_ret (v:= .int .i64 0) ?_ rfl ⟨rfl,below_step hB (bw hB9)⟩)
 rw[←hx 17 (by decide)]
 exact results_tmp (show Tryz.f69.results= #[.tmp 4]from rfl) _ _ _
set_option maxHeartbeats 2000000 in
set_option maxRecDepth 100000 in
theorem cfR (l:List S59) (w:World) (A:Option Addr) (c:Nat) (B:Option Addr) (d:Nat) (hA:k59.C w A l.length l) (hB:k59.C w B l.length l) (hc:l.length≤c) (hd:l.length≤d):Calls Tryz.prog 68 #[.slice A l.length c,.slice B l.length d,.func (.func 69) #[] #[]] w fun e w' =>e= .returned (.int .i64 0)∧Below w.heap.size w w' :=by
 have HA:=Aside0.mk hA
 have HB:=Aside0.mk hB
 have HM:l.length≤9223372036854775807:=by
  have:=hA.2.1
  omega
 clear hA hB
 go_enter Tryz.func68,Tryz.ntmps68
 go_wp2
 go_loopw [13] (fun i w' =>∃y:Int,i= .int .i64 y∧0≤y∧y≤l.length∧Aside0 (Below w.heap.size w w')) (fun i _=>l.length-(intOf i).toNat)
 case atStart=>exact ⟨0,rfl,Int.le_refl _,Int.natCast_nonneg _,⟨Below.refl _ _⟩⟩
 case round =>
  obtain ⟨y,rfl,hy,hyk,HBL⟩:=hrel
  by_cases hyl:y<l.length
  ·obtain ⟨ada,e,x0,x1,x2⟩:=at_T59 HA.out y hy hyl
   cases e
   obtain ⟨adb,e,z0,z1,z2⟩:=at_T59 HB.out y hy hyl
   cases e
   have hm:rd_T59 l y∈l:=mem_get z59 l y hy hyl
   generalize rd_T59 l y=r at *
   replace x0:=pw_cell_below HBL.out x0
   replace x1:=pw_cell_below HBL.out x1
   replace x2:=pw_cell_below HBL.out x2
   have hz:=below_step HBL.out (below_alloc (Below.refl wr.heap.size wr) (.cells #[.int .i64 r.f0,.int .i64 r.f1,.string r.f2] 59))
   replace z0:=pw_cell_below hz z0
   replace z1:=pw_cell_below hz z1
   replace z2:=pw_cell_below hz z2
   have HX:=blk_alloc (blk_new wr (.cells #[.int .i64 r.f0,.int .i64 r.f1,.string r.f2] 59)) (.cells #[.int .i64 r.f0,.int .i64 r.f1,.string r.f2] 59)
   have HY:=new2 wr (.cells #[.int .i64 r.f0,.int .i64 r.f1,.string r.f2] 59) (.cells #[.int .i64 r.f0,.int .i64 r.f1,.string r.f2] 59)
   have a0:=blk_cell HX 0
   have b0:=blk_cell HY 0
   have a1:=blk_cell HX 1
   have b1:=blk_cell HY 1
   have a2:=blk_cell HX 2
   have b2:=blk_cell HY 2
   simp at a0 b0 a1 b1 a2 b2
   have BB:=Aside0.mk (below_step HBL.out (below_alloc (below_alloc (Below.refl wr.heap.size wr) (.cells #[.int .i64 r.f0,.int .i64 r.f1,.string r.f2] 59)) (.cells #[.int .i64 r.f0,.int .i64 r.f1,.string r.f2] 59)))
   have C:=Aside0.mk (refs_calls r ((wr.alloc (.cells #[.int .i64 r.f0,.int .i64 r.f1,.string r.f2] 59)).alloc (.cells #[.int .i64 r.f0,.int .i64 r.f1,.string r.f2] 59)))
   have p1:=eq_true hy
   have q1:=eq_true hyl
   have q2:((l.length:Int)≤y)=False:=eq_false (by omega)
   clear hz HX HY hm
   go_wp2_with (first | (go_at_call 69;refine C.out.mono ?_;rintro e w2 ⟨rfl,hB2⟩;have BB:=Aside0.mk (below_step BB.out hB2);clear hB2))
   go_roundw
   case rel=>exact ⟨y+1,rfl,by omega,by omega,BB⟩
   case measure=>simp[intOf];omega
  ·go_wp2
   go_ret
   exact ⟨rfl,HBL.out⟩
set_option maxHeartbeats 2000000 in
set_option maxRecDepth 100000 in
theorem cfF (l:List S37) (w:World) (ih:(∀x∈l,∀(V:World) (A2:Option Addr) (c2:Nat) (A5:Option Addr) (c5:Nat) (B2:Option Addr) (d2:Nat) (B5:Option Addr) (d5:Nat),FmC V x A2 c2 A5 c5→FmC V x B2 d2 B5 d5→Calls Tryz.prog 34 #[.agg #[.int .i64 x.f0,.string x.f1,.slice A2 x.f2.length c2,.int .i64 x.f3,.int .i64 x.f4,.slice A5 x.f5.length c5],.agg #[.int .i64 x.f0,.string x.f1,.slice B2 x.f2.length d2,.int .i64 x.f3,.int .i64 x.f4,.slice B5 x.f5.length d5]] V fun e w' =>e= .returned (.int .i64 0)∧Below V.heap.size V w')) (A:Option Addr) (c:Nat) (B:Option Addr) (d:Nat) (hA:k37.C w A l.length l) (hB:k37.C w B l.length l) (hc:l.length≤c) (hd:l.length≤d):Calls Tryz.prog 70 #[.slice A l.length c,.slice B l.length d,.func (.func 34) #[] #[]] w fun e w' =>e= .returned (.int .i64 0)∧Below w.heap.size w w' :=by
 have HA:=Aside0.mk hA
 have HB:=Aside0.mk hB
 have HM:l.length≤9223372036854775807:=by
  have:=hA.2.1
  omega
 have IH:=Aside0.mk ih
 clear ih
 clear hA hB
 go_enter Tryz.func70,Tryz.ntmps70
 go_wp2
 go_loopw [13] (fun i w' =>∃y:Int,i= .int .i64 y∧0≤y∧y≤l.length∧Aside0 (Below w.heap.size w w')) (fun i _=>l.length-(intOf i).toNat)
 case atStart=>exact ⟨0,rfl,Int.le_refl _,Int.natCast_nonneg _,⟨Below.refl _ _⟩⟩
 case round =>
  obtain ⟨y,rfl,hy,hyk,HBL⟩:=hrel
  by_cases hyl:y<l.length
  ·obtain ⟨ada,A2,c2,A5,c5,e,x0,x1,x2,x3,x4,x5,l2a,g2a,l5a,g5a⟩:=at_T37 HA.out y hy hyl
   cases e
   obtain ⟨adb,D2,e2,D5,e5,e,z0,z1,z2,z3,z4,z5,l2b,g2b,l5b,g5b⟩:=at_T37 HB.out y hy hyl
   cases e
   have hm:rd_T37 l y∈l:=mem_get z37 l y hy hyl
   generalize rd_T37 l y=r at *
   have FA:=Aside0.mk (show FmC w r A2 c2 A5 c5 from ⟨l2a,g2a,l5a,g5a⟩)
   have FB:=Aside0.mk (show FmC w r D2 e2 D5 e5 from ⟨l2b,g2b,l5b,g5b⟩)
   clear l2a g2a l5a g5a l2b g2b l5b g5b
   replace x0:=pw_cell_below HBL.out x0
   replace x1:=pw_cell_below HBL.out x1
   replace x2:=pw_cell_below HBL.out x2
   replace x3:=pw_cell_below HBL.out x3
   replace x4:=pw_cell_below HBL.out x4
   replace x5:=pw_cell_below HBL.out x5
   have hz:=below_step HBL.out (below_alloc (Below.refl wr.heap.size wr) (.cells #[.int .i64 r.f0,.string r.f1,.slice A2 r.f2.length c2,.int .i64 r.f3,.int .i64 r.f4,.slice A5 r.f5.length c5] 37))
   replace z0:=pw_cell_below hz z0
   replace z1:=pw_cell_below hz z1
   replace z2:=pw_cell_below hz z2
   replace z3:=pw_cell_below hz z3
   replace z4:=pw_cell_below hz z4
   replace z5:=pw_cell_below hz z5
   have HX:=blk_alloc (blk_new wr (.cells #[.int .i64 r.f0,.string r.f1,.slice A2 r.f2.length c2,.int .i64 r.f3,.int .i64 r.f4,.slice A5 r.f5.length c5] 37)) (.cells #[.int .i64 r.f0,.string r.f1,.slice D2 r.f2.length e2,.int .i64 r.f3,.int .i64 r.f4,.slice D5 r.f5.length e5] 37)
   have HY:=new2 wr (.cells #[.int .i64 r.f0,.string r.f1,.slice A2 r.f2.length c2,.int .i64 r.f3,.int .i64 r.f4,.slice A5 r.f5.length c5] 37) (.cells #[.int .i64 r.f0,.string r.f1,.slice D2 r.f2.length e2,.int .i64 r.f3,.int .i64 r.f4,.slice D5 r.f5.length e5] 37)
   have a0:=blk_cell HX 0
   have b0:=blk_cell HY 0
   have a1:=blk_cell HX 1
   have b1:=blk_cell HY 1
   have a2:=blk_cell HX 2
   have b2:=blk_cell HY 2
   have a3:=blk_cell HX 3
   have b3:=blk_cell HY 3
   have a4:=blk_cell HX 4
   have b4:=blk_cell HY 4
   have a5:=blk_cell HX 5
   have b5:=blk_cell HY 5
   simp at a0 b0 a1 b1 a2 b2 a3 b3 a4 b4 a5 b5
   have BB:=Aside0.mk (below_step HBL.out (below_alloc (below_alloc (Below.refl wr.heap.size wr) (.cells #[.int .i64 r.f0,.string r.f1,.slice A2 r.f2.length c2,.int .i64 r.f3,.int .i64 r.f4,.slice A5 r.f5.length c5] 37)) (.cells #[.int .i64 r.f0,.string r.f1,.slice D2 r.f2.length e2,.int .i64 r.f3,.int .i64 r.f4,.slice D5 r.f5.length e5] 37)))
   have C:=Aside0.mk (IH.out r hm _ _ _ _ _ _ _ _ _ (FA.out.below BB.out) (FB.out.below BB.out))
   have p1:=eq_true hy
   have q1:=eq_true hyl
   have q2:((l.length:Int)≤y)=False:=eq_false (by omega)
   clear hz HX HY hm
   go_wp2_with (first | (go_at_call 34;refine C.out.mono ?_;rintro e w2 ⟨rfl,hB2⟩;have BB:=Aside0.mk (below_step BB.out hB2);clear hB2))
   go_roundw
   case rel=>exact ⟨y+1,rfl,by omega,by omega,BB⟩
   case measure=>simp[intOf];omega
  ·go_wp2
   go_ret
   exact ⟨rfl,HBL.out⟩
set_option maxHeartbeats 2000000 in
set_option maxRecDepth 100000 in
theorem cmpF_step (f:S37) (ih:(∀x∈f.f5,∀(V:World) (A2:Option Addr) (c2:Nat) (A5:Option Addr) (c5:Nat) (B2:Option Addr) (d2:Nat) (B5:Option Addr) (d5:Nat),FmC V x A2 c2 A5 c5→FmC V x B2 d2 B5 d5→Calls Tryz.prog 34 #[.agg #[.int .i64 x.f0,.string x.f1,.slice A2 x.f2.length c2,.int .i64 x.f3,.int .i64 x.f4,.slice A5 x.f5.length c5],.agg #[.int .i64 x.f0,.string x.f1,.slice B2 x.f2.length d2,.int .i64 x.f3,.int .i64 x.f4,.slice B5 x.f5.length d5]] V fun e w' =>e= .returned (.int .i64 0)∧Below V.heap.size V w')) (w:World) (A2:Option Addr) (c2:Nat) (A5:Option Addr) (c5:Nat) (B2:Option Addr) (d2:Nat) (B5:Option Addr) (d5:Nat) (fv:FmC w f A2 c2 A5 c5) (gv:FmC w f B2 d2 B5 d5):Calls Tryz.prog 34 #[.agg #[.int .i64 f.f0,.string f.f1,.slice A2 f.f2.length c2,.int .i64 f.f3,.int .i64 f.f4,.slice A5 f.f5.length c5],.agg #[.int .i64 f.f0,.string f.f1,.slice B2 f.f2.length d2,.int .i64 f.f3,.int .i64 f.f4,.slice B5 f.f5.length d5]] w fun e w' =>e= .returned (.int .i64 0)∧Below w.heap.size w w' :=by
 refine calls_frN 37 (fun j=>match j with | 0=> .agg #[.int .i64 f.f0,.string f.f1,.slice A2 f.f2.length c2,.int .i64 f.f3,.int .i64 f.f4,.slice A5 f.f5.length c5] | 1=> .agg #[.int .i64 f.f0,.string f.f1,.slice B2 f.f2.length d2,.int .i64 f.f3,.int .i64 f.f4,.slice B5 f.f5.length d5] | _=>undef) Tryz.func34 (show Tryz.f34.body=some _ from rfl) (by kernel_rfl) ?_
 refine wp_seq (wp_region_list (list_op (i:=0) rfl (op_box37 rfl rfl rfl rfl fun u0 xa h0 s0=>fop rfl (by decide) (list_op (i:=1) rfl (op_box37 rfl rfl rfl rfl fun u1 xb h1 s1=>fop rfl (by decide) (list_op (i:=2) rfl (op_asgc rfl rfl rfl (fop rfl (by decide) ?_))))))))
 rw[s0]at xb s1 ⊢
 replace xa:=blk_below xa h1
 have hB:=below_step h0 h1
 have hB0:=hB
 have bw:∀{V},Below u1.drew.heap.size u1.drew V→Below u1.heap.size u1 V:=fun hB=>below_step (below_drew (Below.refl _ _)) hB
 refine wp_seq (region_kn0 37 (.is (.pointer (some ⟨w.heap.size,0,none⟩)):: .is (.int .i64 f.f0):: .is (.pointer (some ⟨(w.heap.size+1),0,none⟩)):: .is (.int .i64 f.f0):: .is (.int .i64 0):: .is (.pointer (some ⟨w.heap.size,1,none⟩)):: .is (.string f.f1):: .is (.pointer (some ⟨(w.heap.size+1),1,none⟩)):: .is (.string f.f1):: .is (.int .i64 0):: .is (.pointer (some ⟨w.heap.size,2,none⟩)):: .is (.slice A2 f.f2.length c2):: .is (.pointer (some ⟨(w.heap.size+1),2,none⟩)):: .is (.slice B2 f.f2.length d2):: .is (.int .i64 0):: .is (.pointer (some ⟨w.heap.size,3,none⟩)):: .is (.int .i64 f.f3):: .is (.pointer (some ⟨(w.heap.size+1),3,none⟩)):: .is (.int .i64 f.f3):: .is (.int .i64 0):: .is (.pointer (some ⟨w.heap.size,4,none⟩)):: .is (.int .i64 f.f4):: .is (.pointer (some ⟨(w.heap.size+1),4,none⟩)):: .is (.int .i64 f.f4):: .is (.int .i64 0):: .is (.pointer (some ⟨w.heap.size,5,none⟩)):: .is (.slice A5 f.f5.length c5):: .is (.pointer (some ⟨(w.heap.size+1),5,none⟩)):: .is (.slice B5 f.f5.length d5):: .is (.int .i64 0):: .zs 6:: .is (.int .i64 0):: .is (.int .i64 0)::[]) [5,6,7,8,9,10,11,12,13,14,15,16,17,18,19,20,21,22,23,24,25,26,27,28,29,30,31,32,33,34,35,36,4] _ u1 (by kernel_rfl) (by kernel_rfl) ⟨
  fun q V J hB hq h hi=>op_fa37 hi rfl (by decide) rfl rfl (h _ _ rfl (.refl _ _)),
  fun q V J hB hq h hi=>op_ld1 hi rfl (by decide) rfl (hq 0 rfl) (blk_cell (blk_below xa (bw hB)) 0) (h _ _ rfl (.refl _ _)),
  fun q V J hB hq h hi=>op_fa37 hi rfl (by decide) rfl rfl (h _ _ rfl (.refl _ _)),
  fun q V J hB hq h hi=>op_ld1 hi rfl (by decide) rfl (hq 2 rfl) (blk_cell (blk_below xb (bw hB)) 0) (h _ _ rfl (.refl _ _)),
  fun q V J hB hq h hi=>op_valC hi rfl (enters_of Tryz.func66 (by kernel_rfl) rfl) rfl (by simp only[List.map_toArray,List.map_cons,List.map_nil];show #[q 1,q 3]=_;rw[show q 1=_ from hq 1 rfl,show q 3=_ from hq 3 rfl]) (cmpI f.f0 V) fun w1 hb=>h _ _ rfl hb,
  fun q V J hB hq h hi=>op_fa37 hi rfl (by decide) rfl rfl (h _ _ rfl (.refl _ _)),
  fun q V J hB hq h hi=>op_ld1 hi rfl (by decide) rfl (hq 5 rfl) (blk_cell (blk_below xa (bw hB)) 1) (h _ _ rfl (.refl _ _)),
  fun q V J hB hq h hi=>op_fa37 hi rfl (by decide) rfl rfl (h _ _ rfl (.refl _ _)),
  fun q V J hB hq h hi=>op_ld1 hi rfl (by decide) rfl (hq 7 rfl) (blk_cell (blk_below xb (bw hB)) 1) (h _ _ rfl (.refl _ _)),
  fun q V J hB hq h hi=>op_valC hi rfl (enters_of Tryz.func67 (by kernel_rfl) rfl) rfl (by simp only[List.map_toArray,List.map_cons,List.map_nil];show #[q 6,q 8]=_;rw[show q 6=_ from hq 6 rfl,show q 8=_ from hq 8 rfl]) (cmpS f.f1 V) fun w1 hb=>h _ _ rfl hb,
  fun q V J hB hq h hi=>op_fa37 hi rfl (by decide) rfl rfl (h _ _ rfl (.refl _ _)),
  fun q V J hB hq h hi=>op_ld1 hi rfl (by decide) rfl (hq 10 rfl) (blk_cell (blk_below xa (bw hB)) 2) (h _ _ rfl (.refl _ _)),
  fun q V J hB hq h hi=>op_fa37 hi rfl (by decide) rfl rfl (h _ _ rfl (.refl _ _)),
  fun q V J hB hq h hi=>op_ld1 hi rfl (by decide) rfl (hq 12 rfl) (blk_cell (blk_below xb (bw hB)) 2) (h _ _ rfl (.refl _ _)),
  fun q V J hB hq h hi=>op_valC hi rfl (enters_of Tryz.func68 (by kernel_rfl) rfl) rfl (by simp only[List.map_toArray,List.map_cons,List.map_nil];show #[q 11,q 13,.func (.func 69) #[] #[]]=_;rw[show q 11=_ from hq 11 rfl,show q 13=_ from hq 13 rfl]) (cfR f.f2 V A2 c2 B2 d2 (Kd.C_below fv.a (below_step hB0 (bw hB))) (Kd.C_below gv.a (below_step hB0 (bw hB))) fv.l2 gv.l2) fun w1 hb=>h _ _ rfl hb,
  fun q V J hB hq h hi=>op_fa37 hi rfl (by decide) rfl rfl (h _ _ rfl (.refl _ _)),
  fun q V J hB hq h hi=>op_ld1 hi rfl (by decide) rfl (hq 15 rfl) (blk_cell (blk_below xa (bw hB)) 3) (h _ _ rfl (.refl _ _)),
  fun q V J hB hq h hi=>op_fa37 hi rfl (by decide) rfl rfl (h _ _ rfl (.refl _ _)),
  fun q V J hB hq h hi=>op_ld1 hi rfl (by decide) rfl (hq 17 rfl) (blk_cell (blk_below xb (bw hB)) 3) (h _ _ rfl (.refl _ _)),
  fun q V J hB hq h hi=>op_valC hi rfl (enters_of Tryz.func66 (by kernel_rfl) rfl) rfl (by simp only[List.map_toArray,List.map_cons,List.map_nil];show #[q 16,q 18]=_;rw[show q 16=_ from hq 16 rfl,show q 18=_ from hq 18 rfl]) (cmpI f.f3 V) fun w1 hb=>h _ _ rfl hb,
  fun q V J hB hq h hi=>op_fa37 hi rfl (by decide) rfl rfl (h _ _ rfl (.refl _ _)),
  fun q V J hB hq h hi=>op_ld1 hi rfl (by decide) rfl (hq 20 rfl) (blk_cell (blk_below xa (bw hB)) 4) (h _ _ rfl (.refl _ _)),
  fun q V J hB hq h hi=>op_fa37 hi rfl (by decide) rfl rfl (h _ _ rfl (.refl _ _)),
  fun q V J hB hq h hi=>op_ld1 hi rfl (by decide) rfl (hq 22 rfl) (blk_cell (blk_below xb (bw hB)) 4) (h _ _ rfl (.refl _ _)),
  fun q V J hB hq h hi=>op_valC hi rfl (enters_of Tryz.func66 (by kernel_rfl) rfl) rfl (by simp only[List.map_toArray,List.map_cons,List.map_nil];show #[q 21,q 23]=_;rw[show q 21=_ from hq 21 rfl,show q 23=_ from hq 23 rfl]) (cmpI f.f4 V) fun w1 hb=>h _ _ rfl hb,
  fun q V J hB hq h hi=>op_fa37 hi rfl (by decide) rfl rfl (h _ _ rfl (.refl _ _)),
  fun q V J hB hq h hi=>op_ld1 hi rfl (by decide) rfl (hq 25 rfl) (blk_cell (blk_below xa (bw hB)) 5) (h _ _ rfl (.refl _ _)),
  fun q V J hB hq h hi=>op_fa37 hi rfl (by decide) rfl rfl (h _ _ rfl (.refl _ _)),
  fun q V J hB hq h hi=>op_ld1 hi rfl (by decide) rfl (hq 27 rfl) (blk_cell (blk_below xb (bw hB)) 5) (h _ _ rfl (.refl _ _)),
  fun q V J hB hq h hi=>op_valC hi rfl (enters_of Tryz.func70 (by kernel_rfl) rfl) rfl (by simp only[List.map_toArray,List.map_cons,List.map_nil];show #[q 26,q 28,.func (.func 34) #[] #[]]=_;rw[show q 26=_ from hq 26 rfl,show q 28=_ from hq 28 rfl]) (cfF f.f5 V ih A5 c5 B5 d5 (Kd.C_below fv.k (below_step hB0 (bw hB))) (Kd.C_below gv.k (below_step hB0 (bw hB))) fv.l5 gv.l5) fun w1 hb=>h _ _ rfl hb,
  fun q V J hB hq h hi=>op_zs6 hi rfl rfl (hq 4 rfl) (hq 9 rfl) (hq 14 rfl) (hq 19 rfl) (hq 24 rfl) (hq 29 rfl) h,
  fun q V J hB hq h hi=>by obtain ⟨A,c,e,hz⟩:=hq 30 rfl;exact op_valC hi rfl (enters_of Tryz.func65 (by kernel_rfl) rfl) rfl (by simp only[List.map_toArray,List.map_cons,List.map_nil];show #[q 30]=_;rw[show q 30=_ from e]) (orI 6 (by decide) V A c hz) fun w1 hb=>h _ _ rfl hb,
  fun q V J hB hq h hi=>op_asg hi rfl rfl (hq 31 rfl) (h _ _ rfl (.refl _ _)),trivial⟩ ?_)
 intro q V hB9 hx
 refine wp_ret (bodyPost_ret (v:= .int .i64 0) ?_ rfl ⟨rfl,below_step hB (bw hB9)⟩)
 rw[←hx 32 (by decide)]
 exact results_tmp (show Tryz.f34.results= #[.tmp 4]from rfl) _ _ _
theorem cmpF_aux:∀(n:Nat) (f:S37),SizeOf.sizeOf f≤n→∀(w:World) (A2:Option Addr) (c2:Nat) (A5:Option Addr) (c5:Nat) (B2:Option Addr) (d2:Nat) (B5:Option Addr) (d5:Nat),FmC w f A2 c2 A5 c5→FmC w f B2 d2 B5 d5→Calls Tryz.prog 34 #[.agg #[.int .i64 f.f0,.string f.f1,.slice A2 f.f2.length c2,.int .i64 f.f3,.int .i64 f.f4,.slice A5 f.f5.length c5],.agg #[.int .i64 f.f0,.string f.f1,.slice B2 f.f2.length d2,.int .i64 f.f3,.int .i64 f.f4,.slice B5 f.f5.length d5]] w fun e w' =>e= .returned (.int .i64 0)∧Below w.heap.size w w'
 |0,f,hn=>absurd hn (by cases f;simp)
 | n+1,f,hn=>fun w A2 c2 A5 c5 B2 d2 B5 d5 fv gv=>cmpF_step f (fun x hx=>cmpF_aux n x (by
   have:=List.sizeOf_lt_of_mem hx
   have:SizeOf.sizeOf f.f5<SizeOf.sizeOf f:=by cases f;simp;omega
   omega)) w A2 c2 A5 c5 B2 d2 B5 d5 fv gv
theorem cmpF_calls (f:S37) (w:World) (A2:Option Addr) (c2:Nat) (A5:Option Addr) (c5:Nat) (B2:Option Addr) (d2:Nat) (B5:Option Addr) (d5:Nat) (fv:FmC w f A2 c2 A5 c5) (gv:FmC w f B2 d2 B5 d5):Calls Tryz.prog 34 #[.agg #[.int .i64 f.f0,.string f.f1,.slice A2 f.f2.length c2,.int .i64 f.f3,.int .i64 f.f4,.slice A5 f.f5.length c5],.agg #[.int .i64 f.f0,.string f.f1,.slice B2 f.f2.length d2,.int .i64 f.f3,.int .i64 f.f4,.slice B5 f.f5.length d5]] w fun e w' =>e= .returned (.int .i64 0)∧Below w.heap.size w w' :=cmpF_aux _ f (Nat.le_refl _) w A2 c2 A5 c5 B2 d2 B5 d5 fv gv
end
section
structure XK where
 In:World→(Nat→Prop)→Value→Prop
 below:∀{w w' ok v},In w ok v→Below w.heap.size w w' →In w' ok v
 mono:∀{w ok ok' v},In w ok v→(∀k,ok k→k<w.heap.size→ok' k)→In w ok' v
def EX (K:XK) (v p:Value) (w:World):Prop:=∀u g,(∃cs:List Value,v= .tuple (u::cs).toArray)→p= .pointer (some ⟨g,0,none⟩)→K.In w (fun k=>k≠g) u
theorem EX.below {K:XK} {v p:Value} {w w' :World} (h:EX K v p w) (hB:Below w.heap.size w w'):EX K v p w' :=fun u g h1 h2=>K.below (h u g h1 h2) hB
theorem EX.call {K:XK} {w w' :World} {u p:Value} {cs:List Value} {B0:Nat} {z:Obj} (hu:K.In w' (fun k=>k<B0∨w.heap.size≤k) u) (hp:∃g,p= .pointer (some ⟨g,0,none⟩)∧B0≤g∧w.heap[g]? =some z):EX K (.tuple (u::cs).toArray) p w' :=by
 obtain ⟨g,rfl,h0,hz⟩:=hp
 rintro u' g' ⟨cs',he⟩ hg
 obtain rfl:=tuple_head he
 injection hg with hg
 injection hg with hg
 injection hg with hg
 subst hg
 have:=blk_lt hz
 exact K.mono hu (fun k hk _=>by omega)
theorem EX.new {K:XK} {w:World} {u v:Value} {cs:List Value} (o:Obj) (hv:v= .tuple (u::cs).toArray) (hu:K.In w (fun _=>True) u):EX K v (.pointer (some ⟨w.heap.size,0,none⟩)) (w.alloc o):=by
 subst hv
 rintro u' g' ⟨cs',he⟩ hg
 obtain rfl:=tuple_head he
 injection hg with hg
 injection hg with hg
 injection hg with hg
 subst hg
 exact K.below (K.mono hu (fun k _ hk=>by omega)) (below_alloc (Below.refl _ _) o)
def parX (c i:Nat):Nat:=if i=c+1 then c else if i=c+2 then c+1 else i
def CX (c al L:Nat) (ks:List Kn) (pv:Nat→Value) (K:XK) (z:Obj) (cs:List Value) (N i:Nat) (v u:Value) (w:World):Prop :=
 if i<c then (ks.getD i .top).In v w else if i=c then ∃x,v= .tuple (x::cs).toArray∧K.In w (fun _=>True) x else if i=c+1 then v=u∧∃x,v= .tuple (x::cs).toArray
 else if i=c+2 then ∃cs' :List Value,u= .tuple (v::cs').toArray else if i=al then ∃g,v= .pointer (some ⟨g,0,none⟩)∧N≤g∧w.heap[g]? =some z else if i=L then True else v=pv i
def PX (c al L:Nat) (pv:Nat→Value) (cs:List Value) (i:Nat) (v:Value):Prop:=if i=c+1 then ∃x,v= .tuple (x::cs).toArray else if c+2<i∧i≠al∧i≠L then v=pv i else True
section
variable {c al L:Nat} {ks:List Kn} {pv:Nat→Value} {K:XK} {z:Obj} {cs:List Value} {N:Nat} {v u:Value} {w:World}
theorem CX.slot {i:Nat} (h:i<c):CX c al L ks pv K z cs N i v u w=(ks.getD i .top).In v w:=by unfold CX;rw[if_pos h]
theorem CX.call:CX c al L ks pv K z cs N c v u w=∃x,v= .tuple (x::cs).toArray∧K.In w (fun _=>True) x:=by unfold CX;rw[if_neg (by omega),if_pos rfl]
theorem CX.mv:CX c al L ks pv K z cs N (c+1) v u w=(v=u∧∃x,v= .tuple (x::cs).toArray):=by unfold CX;rw[if_neg (by omega),if_neg (by omega),if_pos rfl]
theorem CX.ext:CX c al L ks pv K z cs N (c+2) v u w=∃cs' :List Value,u= .tuple (v::cs').toArray:=by unfold CX;rw[if_neg (by omega),if_neg (by omega),if_neg (by omega),if_pos rfl]
theorem CX.new (h:c+2<al):CX c al L ks pv K z cs N al v u w=∃g,v= .pointer (some ⟨g,0,none⟩)∧N≤g∧w.heap[g]? =some z:=by unfold CX;rw[if_neg (by omega),if_neg (by omega),if_neg (by omega),if_neg (by omega),if_pos rfl]
theorem CX.late {i:Nat} (h:c+2<i) (h1:i≠al) (h2:i≠L):CX c al L ks pv K z cs N i v u w=(v=pv i):=by unfold CX;rw[if_neg (by omega),if_neg (by omega),if_neg (by omega),if_neg (by omega),if_neg h1,if_neg h2]
theorem CX.P {i:Nat} (h:CX c al L ks pv K z cs N i v u w):PX c al L pv cs i v:=by
 unfold PX
 by_cases h1:i=c+1
 ·rw[if_pos h1];subst h1;rw[CX.mv]at h;exact h.2
 ·rw[if_neg h1]
  by_cases h2:c+2<i∧i≠al∧i≠L
  ·rw[if_pos h2];rwa [CX.late h2.1 h2.2.1 h2.2.2]at h
  ·rw[if_neg h2];trivial
end
theorem hd_of {ops:Array Oper} {md:Region.Mode} {c i j L:Nat} {o:Oper} {C:Nat→Prop} (hpar:(List.range ops.size).all (fun i=>parX c i == i || (Dep md ops (parX c i) i && !(i == L) && !(parX c i == L)))=true) (ho:ops[i]? =some o) (hj:parX c i=j) (hne:j≠i) (hd:∀e∈o.after,Region.binds md e=true→C e.on):C j:=by
 have hi:=(Array.getElem?_eq_some_iff.1 ho).1
 have h1:=List.all_eq_true.1 hpar i (List.mem_range.2 hi)
 rw[hj,Bool.or_eq_true]at h1
 rcases h1 with h1 | h1
 ·exact absurd (eq_of_beq h1) hne
 ·rw[Bool.and_eq_true,Bool.and_eq_true]at h1
  have h2:=h1.1.1
  unfold Dep at h2
  rw[ho]at h2
  obtain ⟨e,he,hw⟩:=List.any_eq_true.1 (show (o.after.toList.any fun e=>Region.binds md e && (e.on == j))=true by simpa using h2)
  rw[Bool.and_eq_true]at hw
  rw[←eq_of_beq hw.2]
  exact hd e (Array.mem_toList_iff.1 he) hw.1
theorem region_x {ops:Array Oper} {Q:Exit→Act→World→Prop} {id:Nat} (c al L n:Nat) (ks:List Kn) (pv:Nat→Value) (lt:Nat→Bool) (KS:List Nat) (f:Nat→Value) (W:World) (K:XK) (z:Obj) (At:World→Nat→Prop) (cs:List Value)
  (hL:L<ops.size) (hix:c+2<al∧al<L) (hfit:fitB ops n KS=true)
  (hlow:(List.range ops.size).all (fun i=>((ops[i]?).map fun o=>o.after.all fun e=> !Region.binds .any e || decide (e.on<i)).getD true)=true)
  (hto:(List.range L).all (fun i=>lt i || (List.range (L+1)).any fun j=>decide (i<j) && Dep .any ops i j && !(lt j))=true)
  (hbe:(List.range ops.size).all (fun j=>decide (j≤L) || Dep .any ops L j)=true)
  (hpar:(List.range ops.size).all (fun i=>parX c i == i || (Dep .any ops (parX c i) i && !(i == L) && !(parX c i == L)))=true)
  (hll:lt L=false) (hlt:lt al=false∧∀i,i≤c+2→lt i=false)
  (hst:StepsP ops Q (fun x=>frN n (sl x f KS)) W.drew ks ops.toList 0 c)
  (hcall:∀o x w J,ops[c]? =some o→Below W.drew.heap.size W.drew w→(∀j,j<c→waits o j=true→(ks.getD j .top).In (x j) w)→(∀u w',K.In w' (fun k=>k<W.heap.size∨w.heap.size≤k) u→Below w.heap.size w w' →J ((frN n (sl x f KS)).put o.dst (.tuple (u::cs).toArray)) w')→wpOp Tryz.prog ops Q c J (frN n (sl x f KS)) w)
  (h1:∀o x w J,ops[c+1]? =some o→J ((frN n (sl x f KS)).put o.dst (x c)) w→wpOp Tryz.prog ops Q (c+1) J (frN n (sl x f KS)) w)
  (h2:∀o x w J u (cs' :List Value),ops[c+2]? =some o→x (c+1)= .tuple (u::cs').toArray→J ((frN n (sl x f KS)).put o.dst u) w→wpOp Tryz.prog ops Q (c+2) J (frN n (sl x f KS)) w)
  (h3:∀o x w J,ops[al]? =some o→J ((frN n (sl x f KS)).put o.dst (.pointer (some ⟨w.heap.size,0,none⟩))) (w.alloc z)→wpOp Tryz.prog ops Q al J (frN n (sl x f KS)) w)
  (h4:∀o x w J g,ops[L]? =some o→x al= .pointer (some ⟨g,0,none⟩)→w.heap[g]? =some z→K.In w (fun k=>k≠g) (x (c+2))→(∀w',At w' g→(∀B,B≤g→Below B w w')→J ((frN n (sl x f KS)).put o.dst undef) w')→wpOp Tryz.prog ops Q L J (frN n (sl x f KS)) w)
  (h5:∀i o x w J,c+2<i→i≠al→i≠L→ops[i]? =some o→(∀j,waits o j=true→j≠L→PX c al L pv cs j (x j))→J ((frN n (sl x f KS)).put o.dst (pv i)) w→wpOp Tryz.prog ops Q i J (frN n (sl x f KS)) w)
  (fin:∀x w,(∃g,x al= .pointer (some ⟨g,0,none⟩)∧At w g)→(∀i,i<ops.size→c+2<i→i≠al→i≠L→x i=pv i)→Below W.heap.size W w→Q .normal (frN n (sl x f KS)) w) :
  Code.wp Tryz.prog (.region id ops true) Q (frN n f) W:=by
 have HD:=below_drew (Below.refl W.heap.size W)
 obtain ⟨q1,q2⟩:=hix
 obtain ⟨q3,q4⟩:=hlt
 rw[frN_sl n f KS]
 refine wp_region_any (by kernel_rfl) (region_two L hL (fun x=>frN n (sl x f KS)) (parX c) lt (CX c al L ks pv K z cs W.heap.size) (fun i v _=>PX c al L pv cs i v) c al (EX K) (fun v w=>(∃g,v= .pointer (some ⟨g,0,none⟩)∧At w g)∧Below W.heap.size W w) W.drew hlow hto hbe hpar hll (fun i o x v ho=>fit_put hfit f i o x v ho) (fun i v u w h=>h.P) (fun i v u w w' h hB=> ?_) (fun _ _ _ _ h hB=>EX.below h hB) (fun i o x w J dn hi ho hB hd hdn h=> ?_) ⟨by omega,q2,by omega,q4 c (by omega),q3⟩ (fun o x w J ho hB hx hE h=> ?_) (fun i o x w J hl ho hd h=> ?_) (fun x w hx hD=>fin x w hD.1 (fun i hi h0 ha hs=> ?_) hD.2) _)
 ·rcases Nat.lt_trichotomy i c with hc | rfl | hc
  ·rw[CX.slot hc]at h ⊢
   exact (ks.getD i .top).st _ _ _ h hB
  ·rw[CX.call]at h ⊢
   exact h.imp fun x hx=>⟨hx.1,K.below hx.2 hB⟩
  ·by_cases e1:i=c+1
   ·subst e1;rw[CX.mv]at h ⊢;exact h
   ·by_cases e2:i=c+2
    ·subst e2;rw[CX.ext]at h ⊢;exact h
    ·by_cases e3:i=al
     ·subst e3;rw[CX.new q1]at h ⊢
      exact h.imp fun g hg=>⟨hg.1,hg.2.1,blk_below hg.2.2 hB⟩
     ·by_cases e4:i=L
      ·subst e4
       unfold CX
       rw[if_neg (by omega),if_neg (by omega),if_neg e1,if_neg e2,if_neg e3,if_pos rfl]
       trivial
      ·rw[CX.late (by omega) e3 e4]at h ⊢;exact h
 ·have hBW:=below_step HD hB
  rcases Nat.lt_trichotomy i c with hc | rfl | hc
  ·have s1:=stepsP_at ops.toList 0 c hst i o hc (by simpa using ho)
   rw[Nat.zero_add]at s1
   refine s1 x w J hB (fun j hj=> ?_) (fun v w' hv hb=>h v w' (by rw[CX.slot hc];exact hv) (fun e=>absurd e (by omega)) (fun e=>absurd e (by omega)) hb) ho
   have hjl:=deps_waits (C:=fun j=>j<i) rfl (fun e he hb=>by
    have t1:=List.all_eq_true.1 hlow i (List.mem_range.2 (by omega))
    rw[ho]at t1
    have t2:=Array.all_eq_true'.1 (show (o.after.all fun e=> !Region.binds .any e || decide (e.on<i))=true from t1) e he
    rw[hb]at t2
    simpa using t2) j hj
   have s2:=deps_waits (C:=fun j=>CX c al L ks pv K z cs W.heap.size j (x j) (x (parX c j)) w) rfl hd j hj
   rwa [CX.slot (by omega)]at s2
  ·refine hcall o x w J ho hB (fun j hj hw=> ?_) (fun u w' hu hb=>h _ w' (by rw[CX.call];exact ⟨u,rfl,K.mono hu (fun _ _ _=>trivial)⟩) (fun _ hq=>EX.call hu (by have:=hdn al hq q2;rwa [CX.new q1]at this)) (fun e=>absurd e (by omega)) hb)
   have s2:=deps_waits (C:=fun j=>CX i al L ks pv K z cs W.heap.size j (x j) (x (parX i j)) w) rfl hd j hw
   rwa [CX.slot hj]at s2
  ·by_cases e1:i=c+1
   ·subst e1
    have hp:=List.all_eq_true.1 hpar (c+1) (List.mem_range.2 (by omega))
    have hu:upd x (c+1) (x c) (parX c (c+1))=x c:=by unfold upd parX;rw[if_pos rfl,if_neg (by omega)]
    refine h1 o x w J ho (h _ w ?_ (fun e=>absurd e (by omega)) (fun e=>absurd e (by omega)) (Below.refl _ _))
    rw[CX.mv,hu]
    refine ⟨rfl,?_⟩
    have hc1:=hd_of (C:=fun j=>CX c al L ks pv K z cs W.heap.size j (x j) (x (parX c j)) w) hpar ho (by unfold parX;rw[if_pos rfl]) (by omega) hd
    rw[CX.call]at hc1
    exact hc1.imp fun _ hx=>hx.1
   ·by_cases e2:i=c+2
    ·subst e2
     have hu:∀v,upd x (c+2) v (parX c (c+2))=x (c+1):=fun v=>by rw[show parX c (c+2)=c+1 by unfold parX;rw[if_neg (by omega),if_pos rfl]];unfold upd;rw[if_neg (by omega)]
     have hc1:=hd_of (C:=fun j=>CX c al L ks pv K z cs W.heap.size j (x j) (x (parX c j)) w) hpar ho (by unfold parX;rw[if_neg (by omega),if_pos rfl]) (by omega) hd
     rw[CX.mv]at hc1
     obtain ⟨_,y,hy⟩:=hc1
     exact h2 o x w J y cs ho hy (h _ w (by rw[CX.ext,hu];exact ⟨cs,hy⟩) (fun e=>absurd e (by omega)) (fun e=>absurd e (by omega)) (Below.refl _ _))
    ·by_cases e3:i=al
     ·subst e3
      refine h3 o x w J ho (h _ _ (by rw[CX.new q1];exact ⟨w.heap.size,rfl,hBW.size,heap_alloc_new _ _⟩) (fun e=>absurd e (by omega)) (fun _ hq=> ?_) (below_alloc (Below.refl _ _) _))
      have:=hdn c hq (by omega)
      rw[CX.call]at this
      obtain ⟨u,e,hu⟩:=this
      exact EX.new _ e hu
     ·have e4:i≠L:=by omega
      exact h5 i o x w J (by omega) e3 e4 ho (fun j hj hn=>(deps_waits (C:=fun j=>CX c al L ks pv K z cs W.heap.size j (x j) (x (parX c j)) w) rfl hd j hj).P) (h _ w (by rw[CX.late (by omega) e3 e4]) (fun e=>absurd e (by omega)) (fun e=>absurd e (by omega)) (Below.refl _ _))
 ·have k0:=hx al q2 q3
  rw[CX.new q1]at k0
  obtain ⟨g,eg,hg0,hz⟩:=k0
  have k1:=hx (c+2) (by omega) (q4 _ (by omega))
  rw[CX.ext,show parX c (c+2)=c+1 by unfold parX;rw[if_neg (by omega),if_pos rfl]]at k1
  obtain ⟨cs',e2⟩:=k1
  have k2:=hx (c+1) (by omega) (q4 _ (by omega))
  rw[CX.mv,show parX c (c+1)=c by unfold parX;rw[if_pos rfl]]at k2
  have hF:=hE (x (c+2)) g ⟨cs',k2.1.symm.trans e2⟩ eg
  exact h4 o x w J g ho eg hz hF fun w' h37 hbel=>h undef w' ⟨⟨g,eg,h37⟩,below_step HD (hB.trans (hbel W.drew.heap.size hg0))⟩
 ·have hi3:c+2<i:=by
   rcases hl with hl | hl
   ·rcases Nat.lt_or_ge (c+2) i with h | h
    ·exact h
    ·rw[q4 i h]at hl;cases hl
   ·omega
  have e3:i≠al:=fun e=>by
   rcases hl with hl | hl
   ·rw[e,q3]at hl;cases hl
   ·omega
  have e4:i≠L:=fun e=>by
   rcases hl with hl | hl
   ·rw[e,hll]at hl;cases hl
   ·omega
  exact h5 i o x w J hi3 e3 e4 ho (fun j hj hn=>deps_waits (C:=fun j=>j≠L→PX c al L pv cs j (x j)) rfl hd j hj hn) (h _ (by unfold PX;rw[if_neg (by omega),if_pos ⟨hi3,e3,e4⟩]))
 ·have:=hx i hi hs
  unfold PX at this
  rwa [if_neg (by omega),if_pos ⟨h0,ha,hs⟩]at this
def XK.f (r:Except Int S70):XK:=⟨fun w ok v=>IsF w ok r v,fun h hB=>h.below hB,fun h hi=>h.mono hi⟩
theorem region_x37 {ops:Array Oper} {Q:Exit→Act→World→Prop} {id:Nat} (c al L n:Nat) (ks:List Kn) (pv:Nat→Value) (lt:Nat→Bool) (KS:List Nat) (f:Nat→Value) (W:World) (r:Except Int S70) (cs:List Value)
  (hL:L<ops.size) (hix:c+2<al∧al<L) (hfit:fitB ops n KS=true)
  (hlow:(List.range ops.size).all (fun i=>((ops[i]?).map fun o=>o.after.all fun e=> !Region.binds .any e || decide (e.on<i)).getD true)=true)
  (hto:(List.range L).all (fun i=>lt i || (List.range (L+1)).any fun j=>decide (i<j) && Dep .any ops i j && !(lt j))=true)
  (hbe:(List.range ops.size).all (fun j=>decide (j≤L) || Dep .any ops L j)=true)
  (hpar:(List.range ops.size).all (fun i=>parX c i == i || (Dep .any ops (parX c i) i && !(i == L) && !(parX c i == L)))=true)
  (hll:lt L=false) (hlt:lt al=false∧∀i,i≤c+2→lt i=false)
  (hst:StepsP ops Q (fun x=>frN n (sl x f KS)) W.drew ks ops.toList 0 c)
  (hcall:∀o x w J,ops[c]? =some o→Below W.drew.heap.size W.drew w→(∀j,j<c→waits o j=true→(ks.getD j .top).In (x j) w)→(∀u w',IsF w' (fun k=>w.heap.size≤k) r u→Below w.heap.size w w' →J ((frN n (sl x f KS)).put o.dst (.tuple (u::cs).toArray)) w')→wpOp Tryz.prog ops Q c J (frN n (sl x f KS)) w)
  (h1:∀o x w J,ops[c+1]? =some o→J ((frN n (sl x f KS)).put o.dst (x c)) w→wpOp Tryz.prog ops Q (c+1) J (frN n (sl x f KS)) w)
  (h2:∀o x w J u (cs' :List Value),ops[c+2]? =some o→x (c+1)= .tuple (u::cs').toArray→J ((frN n (sl x f KS)).put o.dst u) w→wpOp Tryz.prog ops Q (c+2) J (frN n (sl x f KS)) w)
  (h3:∀o x w J,ops[al]? =some o→J ((frN n (sl x f KS)).put o.dst (.pointer (some ⟨w.heap.size,0,none⟩))) (w.alloc zero37)→wpOp Tryz.prog ops Q al J (frN n (sl x f KS)) w)
  (h4:∀o x w J g,ops[L]? =some o→x al= .pointer (some ⟨g,0,none⟩)→w.heap[g]? =some zero37→IsF w (fun k=>k≠g) r (x (c+2))→(∀w',At37 w' g r→(∀B,B≤g→Below B w w')→J ((frN n (sl x f KS)).put o.dst undef) w')→wpOp Tryz.prog ops Q L J (frN n (sl x f KS)) w)
  (h5:∀i o x w J,c+2<i→i≠al→i≠L→ops[i]? =some o→(∀j,waits o j=true→j≠L→PX c al L pv cs j (x j))→J ((frN n (sl x f KS)).put o.dst (pv i)) w→wpOp Tryz.prog ops Q i J (frN n (sl x f KS)) w)
  (fin:∀x w,Is37 w (x al) r→(∀i,i<ops.size→c+2<i→i≠al→i≠L→x i=pv i)→Below W.heap.size W w→Q .normal (frN n (sl x f KS)) w) :
  Code.wp Tryz.prog (.region id ops true) Q (frN n f) W :=
 region_x c al L n ks pv lt KS f W (.f r) zero37 (fun w g=>At37 w g r) cs hL hix hfit hlow hto hbe hpar hll hlt hst (fun o x w J ho hB hx h=>hcall o x w J ho hB hx fun u w' hu hb=>h u w' (hu.mono fun k hk _=> .inr hk) hb) h1 h2 h3 h4 h5 fin
end
section
attribute [local go_sem] Oper.semAt_some
def Kn.isT (t:S30):Kn:=⟨fun v w=>IsT w t v,fun _ _ _ h hB=>h.below hB⟩
def Kn.isL (l:List S30):Kn:=⟨fun v w=>IsL w l v,fun _ _ _ h hB=>h.below hB⟩
def IsFm (w:World) (F:S37) (v:Value):Prop:=∃A2 c2 A5 c5,v= .agg #[.int .i64 F.f0,.string F.f1,.slice A2 F.f2.length c2,.int .i64 F.f3,.int .i64 F.f4,.slice A5 F.f5.length c5]∧FmC w F A2 c2 A5 c5
def IsFs (w:World) (l:List S37) (v:Value):Prop:=∃A c,v= .slice A l.length c∧l.length≤c∧k37.C w A l.length l
theorem IsFm.below {w w' :World} {F:S37} {v:Value} (h:IsFm w F v) (hB:Below w.heap.size w w'):IsFm w' F v:=by
 obtain ⟨A2,c2,A5,c5,e,h⟩:=h
 exact ⟨A2,c2,A5,c5,e,h.below hB⟩
theorem IsFs.below {w w' :World} {l:List S37} {v:Value} (h:IsFs w l v) (hB:Below w.heap.size w w'):IsFs w' l v:=by
 obtain ⟨A,c,e,h1,h2⟩:=h
 exact ⟨A,c,e,h1,Kd.C_below h2 hB⟩
def Kn.fm (F:S37):Kn:=⟨fun v w=>IsFm w F v,fun _ _ _ h hB=>h.below hB⟩
def Kn.fs (l:List S37):Kn:=⟨fun v w=>IsFs w l v,fun _ _ _ h hB=>h.below hB⟩
def AtF (w:World) (g:Nat) (F:S37):Prop:=∃A2 c2 A5 c5,w.heap[g]? =some (.cells #[.int .i64 F.f0,.string F.f1,.slice A2 F.f2.length c2,.int .i64 F.f3,.int .i64 F.f4,.slice A5 F.f5.length c5] 37 (0,0))∧FmC w F A2 c2 A5 c5
theorem AtF.below {w w' :World} {g:Nat} {F:S37} (h:AtF w g F) (hB:Below w.heap.size w w'):AtF w' g F:=by
 obtain ⟨A2,c2,A5,c5,h1,h2⟩:=h
 exact ⟨A2,c2,A5,c5,blk_below h1 hB,h2.below hB⟩
theorem fs_blk {W:World} {g:Nat} (l:List S37) (cs:List Value) (hg:W.heap[g]? =some (.cells cs.toArray 37)) (hR:Reps (fun x c=>k37.K W x c) 6 l cs) (hn:l.length≤1000):IsFs W l (.slice (some ⟨g,0,none⟩) l.length l.length):=by
 obtain ⟨A,c,he,hC⟩:=own_reads_row (block_own (size:=6) (n:=l.length) hg (by rw[hR.1]) (by omega)) hR rfl
 injection he with he1 he2 he3
 subst he1
 exact ⟨_,_,rfl,Nat.le_refl _,hC⟩
theorem FmC.reps {w:World} {F:S37} {A2 A5:Option Addr} {c2 c5:Nat} (h:FmC w F A2 c2 A5 c5):Reps (fun x c=>k37.K w x c) 6 [F] [.int .i64 F.f0,.string F.f1,.slice A2 F.f2.length c2,.int .i64 F.f3,.int .i64 F.f4,.slice A5 F.f5.length c5]:=by
 have h:=(Reps.none (fun (x:S37) c=>k37.K w x c) 6).snoc (k37_mk w F h.l2 h.a h.l5 h.k) rfl
 simpa using h
section
variable {ops:Array Oper} {Q:Exit→Act→World→Prop} {i:Nat} {o:Oper} {J:Act→World→Prop} {a:Act} {w:World}
theorem op_loadF {F:S37} {k:Tmp} {g:Nat} (hi:ops[i]? =some o) (hg:o.guard=none) (ho:o.op= .load 37 (.tmp k)) (ha:a.tmps[k]?.getD undef= .pointer (some ⟨g,0,none⟩)) (hh:AtF w g F) (h:∀u,IsFm w F u→J (a.put o.dst u) w):wpOp Tryz.prog ops Q i J a w:=by
 obtain ⟨A2,c2,A5,c5,hb,hF⟩:=hh
 have h:=h _ ⟨A2,c2,A5,c5,rfl,hF⟩
 have x0:=blk_cell hb 0
 have x1:=blk_cell hb 1
 have x2:=blk_cell hb 2
 have x3:=blk_cell hb 3
 have x4:=blk_cell hb 4
 have x5:=blk_cell hb 5
 simp at x0 x1 x2 x3 x4 x5
 refine op_value hi (wanted_none hg) (w' :=w) ?_ h
 unfold execOp
 rw[ho]
 go_simp
theorem op_fs1 {F:S37} {k:Tmp} {v:Value} (hi:ops[i]? =some o) (hg:o.guard=none) (ho:o.op= .buildSlice 35 1 #[(0,.tmp k)]) (ha:a.tmps[k]?.getD undef=v) (hv:IsFm w F v) (h:∀u w',IsFs w' [F] u→Below w.heap.size w w' →J (a.put o.dst u) w'):wpOp Tryz.prog ops Q i J a w:=by
 obtain ⟨A2,c2,A5,c5,rfl,hF⟩:=hv
 have hB:=below_alloc (Below.refl w.heap.size w) (.cells #[.int .i64 F.f0,.string F.f1,.slice A2 F.f2.length c2,.int .i64 F.f3,.int .i64 F.f4,.slice A5 F.f5.length c5] 37)
 refine op_value hi (wanted_none hg) ?_ (h _ _ (fs_blk [F] _ (heap_alloc_new w _) (hF.below hB).reps (by simp)) hB)
 unfold execOp
 rw[ho]
 go_simp
theorem op_box26 {k:Tmp} {s:Sg} (hi:ops[i]? =some o) (hg:o.guard=none) (ho:o.op= .box 26 (.tmp k)) (ha:a.tmps[k]?.getD undef=sgV s) (hC:s.C w) (h:∀w',AtS w' w.heap.size s→Below w.heap.size w w' →w'.heap.size=w.heap.size+1→J (a.put o.dst (.pointer (some ⟨w.heap.size,0,none⟩))) w'):wpOp Tryz.prog ops Q i J a w:=by
 unfold sgV at ha
 refine op_value hi (wanted_none hg) (w' :=w.alloc (.cells #[.slice s.A0 s.ss.length s.c0,.slice s.A1 s.cs.length s.c1,.slice s.A2 s.ps.length s.c2] 26)) ?_ (h _ ⟨blk_new w _,SigC.below hC (below_alloc (Below.refl _ _) _)⟩ (below_alloc (Below.refl _ _) _) (by simp))
 unfold execOp
 rw[ho]
 go_simp
theorem op_eqc {T:TypeId} {k:Tmp} {n m:Int} {b:Bool} (hi:ops[i]? =some o) (hg:o.guard=none) (hT:T=38∨T=3) (ho:o.op= .binOp .eql T (.tmp k) (.const (.int .i64 m)) T) (hb:(n == m)=b) (ha:a.tmps[k]?.getD undef= .int .i64 n) (h:J (a.put o.dst (.bool b)) w):wpOp Tryz.prog ops Q i J a w:=by
 subst hb
 rcases hT with rfl | rfl
 all_goals (
  refine op_value hi (wanted_none hg) (w' :=w) ?_ h
  unfold execOp
  rw[ho]
  go_simp)
theorem op_nec {k:Tmp} {n m:Int} {b:Bool} (hi:ops[i]? =some o) (hg:o.guard=none) (ho:o.op= .binOp .neq 38 (.tmp k) (.const (.int .i64 m)) 38) (hb:(n != m)=b) (ha:a.tmps[k]?.getD undef= .int .i64 n) (h:J (a.put o.dst (.bool b)) w):wpOp Tryz.prog ops Q i J a w:=by
 subst hb
 refine op_value hi (wanted_none hg) (w' :=w) ?_ h
 unfold execOp
 rw[ho]
 go_simp
theorem op_eqcc {k k2:Tmp} {n m:Int} {b:Bool} (hi:ops[i]? =some o) (hg:o.guard=none) (ho:o.op= .binOp .eql 38 (.tmp k) (.tmp k2) 38) (hb:(n == m)=b) (ha:a.tmps[k]?.getD undef= .int .i64 n) (ha2:a.tmps[k2]?.getD undef= .int .i64 m) (h:J (a.put o.dst (.bool b)) w):wpOp Tryz.prog ops Q i J a w:=by
 subst hb
 refine op_value hi (wanted_none hg) (w' :=w) ?_ h
 unfold execOp
 rw[ho]
 go_simp
theorem op_pickA {k k2:Tmp} {b c:Bool} (hi:ops[i]? =some o) (hg:o.guard=none) (ho:o.op= .pick (.tmp k) (.tmp k2) (.const (.bool false))) (ha:a.tmps[k]?.getD undef= .bool b) (ha2:b=true→a.tmps[k2]?.getD undef= .bool c) (h:J (a.put o.dst (.bool (b && c))) w):wpOp Tryz.prog ops Q i J a w:=by
 refine op_value hi (wanted_none hg) (w' :=w) ?_ h
 unfold execOp
 rw[ho]
 cases b with
 |false=>go_simp
 |true =>
  have ha3:=ha2 rfl
  go_simp
theorem op_len {k:Tmp} {x:ByteArray} (hi:ops[i]? =some o) (hg:o.guard=none) (ho:o.op= .call {callee:= .builtin .len,args:= #[.tmp k],argTypes:= #[9]}) (ha:a.tmps[k]?.getD undef= .string x) (h:J (a.put o.dst (.int .i64 x.size)) w):wpOp Tryz.prog ops Q i J a w:=by
 refine op_value hi (wanted_none hg) (w' :=w) ?_ h
 unfold execOp
 rw[ho]
 go_simp
theorem op_gtc {k:Tmp} {n m:Int} (hi:ops[i]? =some o) (hg:o.guard=none) (ho:o.op= .binOp .gtr 3 (.tmp k) (.const (.int .i64 m)) 3) (ha:a.tmps[k]?.getD undef= .int .i64 n) (h:J (a.put o.dst (.bool (decide (m<n)))) w):wpOp Tryz.prog ops Q i J a w:=by
 refine op_value hi (wanted_none hg) (w' :=w) ?_ h
 unfold execOp
 rw[ho]
 go_simp
theorem op_treeN {nm:ByteArray} {l:List S30} {xs:Array Operand} {v:Value} (hi:ops[i]? =some o) (hg:o.guard=none) (ho:o.op= .call {callee:= .value (.func 32),args:=xs,argTypes:= #[9,28]}) (hx:xs.map a.eval= #[.string nm,v]) (hv:IsL w l v) (h:∀u w',IsT w' ⟨nm,[],l⟩ u→Below w.heap.size w w' →J (a.put o.dst u) w'):wpOp Tryz.prog ops Q i J a w:=by
 refine op_call (f:=32) (args:= #[.string nm,v]) hi (wanted_none hg) ?_ ((tree_callsT nm l v w hv).mono ?_)
 ·have he:=enters_of Tryz.func32 (by kernel_rfl) rfl #[.string nm,v] w
  unfold execOp
  rw[ho]
  simp[go_sem,resolve,Deferred.ofValue,invoke,he,hx]
 ·rintro e w' ⟨u,rfl,hu,hB⟩
  exact ⟨u,rfl,h u w' hu hB⟩
end
set_option maxHeartbeats 2000000 in
set_option maxRecDepth 100000 in
/-- join (33). -/
theorem join_calls (op:Int) (l:List S37) (v:Value) (w:World) (h:IsFs w l v):Calls Tryz.prog 33 #[.int .i64 op,v] w fun e w' =>∃u,e= .returned u∧IsFm w' ⟨op,⟨#[]⟩,[],0,0,l⟩ u∧Below w.heap.size w w' :=by
 obtain ⟨A,c,rfl,hl,hC⟩:=h
 have HC:=Aside0.mk hC
 clear hC
 go_enter Tryz.func33,Tryz.ntmps33
 go_wp2
 refine bodyPost_ret (results_single rfl (.cell w.heap.size 37 _ (0,0) _ rfl (blk_new w (.cells #[.int .i64 op,.string ⟨#[]⟩,.slice none 0 0,.int .i64 0,.int .i64 0,.slice A l.length c] 37)) Tryz.underlying37 rfl (by kernel_rfl) .nil)) rfl ?_
 have hB:=below_alloc (Below.refl w.heap.size w) (.cells #[.int .i64 op,.string ⟨#[]⟩,.slice none 0 0,.int .i64 0,.int .i64 0,.slice A l.length c] 37)
 exact ⟨_,rfl,⟨none,0,A,c,rfl,Nat.le_refl _,Kd.C_nil _ _,hl,Kd.C_below HC.out hB⟩,hB⟩
set_option maxHeartbeats 2000000 in
set_option maxRecDepth 100000 in
/-- long (14): it answers. -/
theorem long_calls (s:Sg) (w:World):Calls Tryz.prog 14 #[sgV s] w fun e w' =>∃b,e= .returned (.bool b)∧True∧Below w.heap.size w w' :=by
 have HB:=Aside0.mk (below_alloc (Below.refl w.heap.size w) (.cells #[.slice s.A0 s.ss.length s.c0,.slice s.A1 s.cs.length s.c1,.slice s.A2 s.ps.length s.c2] 26))
 unfold sgV
 generalize h0:decide ((300:Int)<(s.ss.length:Int))=b0
 generalize h1:decide ((300:Int)<(s.cs.length:Int))=b1
 generalize h2:decide ((300:Int)<(s.ps.length:Int))=b2
 have e0:=h0
 have e1:=h1
 have e2:=h2
 clear h0 h1 h2
 cases b0<;>cases b1<;>cases b2
 all_goals (
  go_enter Tryz.func14,Tryz.ntmps14
  go_wp2
  go_ret
  exact ⟨_,rfl,trivial,HB.out⟩)
section
variable {ops:Array Oper} {Q:Exit→Act→World→Prop} {i:Nat} {o:Oper} {J:Act→World→Prop} {a:Act} {w:World}
theorem op_join {op:Int} {l:List S37} {k:Tmp} {v:Value} {ts:Array TypeId} (hi:ops[i]? =some o) (hg:o.guard=none) (ho:o.op= .call {callee:= .value (.func 33),args:= #[.const (.int .i64 op),.tmp k],argTypes:=ts}) (ha:a.tmps[k]?.getD undef=v) (hv:IsFs w l v) (h:∀u w',IsFm w' ⟨op,⟨#[]⟩,[],0,0,l⟩ u→Below w.heap.size w w' →J (a.put o.dst u) w'):wpOp Tryz.prog ops Q i J a w:=by
 refine op_call (f:=33) (args:= #[.int .i64 op,v]) hi (wanted_none hg) ?_ ((join_calls op l v w hv).mono ?_)
 ·have he:=enters_of Tryz.func33 (by kernel_rfl) rfl #[.int .i64 op,v] w
  unfold execOp
  rw[ho]
  go_simp
 ·rintro e w' ⟨u,rfl,hu,hB⟩
  exact ⟨u,rfl,h u w' hu hB⟩
theorem op_cmpF {F:S37} {k k2:Tmp} {v v2:Value} {ts:Array TypeId} (hi:ops[i]? =some o) (hg:o.guard=none) (ho:o.op= .call {callee:= .value (.func 34),args:= #[.tmp k,.tmp k2],argTypes:=ts}) (ha:a.tmps[k]?.getD undef=v) (ha2:a.tmps[k2]?.getD undef=v2) (hv:IsFm w F v) (hv2:IsFm w F v2) (h:∀w',Below w.heap.size w w' →J (a.put o.dst (.int .i64 0)) w'):wpOp Tryz.prog ops Q i J a w:=by
 obtain ⟨A2,c2,A5,c5,rfl,hF⟩:=hv
 obtain ⟨B2,d2,B5,d5,rfl,hG⟩:=hv2
 refine op_call (f:=34) (args:= #[.agg #[.int .i64 F.f0,.string F.f1,.slice A2 F.f2.length c2,.int .i64 F.f3,.int .i64 F.f4,.slice A5 F.f5.length c5],.agg #[.int .i64 F.f0,.string F.f1,.slice B2 F.f2.length d2,.int .i64 F.f3,.int .i64 F.f4,.slice B5 F.f5.length d5]]) hi (wanted_none hg) ?_ ((cmpF_calls F w A2 c2 A5 c5 B2 d2 B5 d5 hF hG).mono ?_)
 ·have he:=enters_of Tryz.func34 (by kernel_rfl) rfl #[.agg #[.int .i64 F.f0,.string F.f1,.slice A2 F.f2.length c2,.int .i64 F.f3,.int .i64 F.f4,.slice A5 F.f5.length c5],.agg #[.int .i64 F.f0,.string F.f1,.slice B2 F.f2.length d2,.int .i64 F.f3,.int .i64 F.f4,.slice B5 F.f5.length d5]] w
  unfold execOp
  rw[ho]
  go_simp
 ·rintro e w' ⟨rfl,hB⟩
  exact ⟨_,rfl,h w' hB⟩
theorem op_box37v {F:S37} {k:Tmp} {v:Value} (hi:ops[i]? =some o) (hg:o.guard=none) (ho:o.op= .box 37 (.tmp k)) (ha:a.tmps[k]?.getD undef=v) (hv:IsFm w F v) (h:∀w',AtF w' w.heap.size F→Below w.heap.size w w' →w'.heap.size=w.heap.size+1→J (a.put o.dst (.pointer (some ⟨w.heap.size,0,none⟩))) w'):wpOp Tryz.prog ops Q i J a w:=by
 obtain ⟨A2,c2,A5,c5,rfl,hF⟩:=hv
 exact op_box37 (x:=F) hi hg ho ha fun w' h1 h2 h3=>h w' ⟨A2,c2,A5,c5,h1,hF.below h2⟩ h2 h3
theorem op_box30v {t:S30} {k:Tmp} {v:Value} (hi:ops[i]? =some o) (hg:o.guard=none) (ho:o.op= .box 30 (.tmp k)) (ha:a.tmps[k]?.getD undef=v) (hv:IsT w t v) (h:∀w',AtT w' w.heap.size t→Below w.heap.size w w' →w'.heap.size=w.heap.size+1→J (a.put o.dst (.pointer (some ⟨w.heap.size,0,none⟩))) w'):wpOp Tryz.prog ops Q i J a w:=by
 obtain ⟨A1,c1,A2,c2,rfl,hT⟩:=hv
 exact op_box30 (t:=t) hi hg ho ha fun w' h1 h2 h3=>h w' ⟨A1,c1,A2,c2,h1,hT.below h2⟩ h2 h3
end
section
variable {ops:Array Oper} {Q:Exit→Act→World→Prop} {i:Nat} {o:Oper} {J:Act→World→Prop} {a:Act} {w:World}
theorem op_sentC {T:Lib.PrintTabs} {s:Sg} {t:S30} {k k2:Tmp} {v:Value} {c:Int} (hi:ops[i]? =some o) (hg:o.guard=none) (ho:o.op= .call {callee:= .value (.func 26),args:= #[.tmp k,.tmp k2],argTypes:= #[26,30]}) (ha:a.tmps[k]?.getD undef=sgV s) (ha2:a.tmps[k2]?.getD undef=v) (hc:codeOf (senP s t)=c) (hv:IsT w t v) (hT:Tabs T w) (hC:s.C w) (hsm:Sm t) (hn:nodes t≤500) (h:∀u w',IsF w' (fun k=>w.heap.size≤k) (senP s t) u→Below w.heap.size w w' →J (a.put o.dst (.tuple #[u,.int .i64 c])) w'):wpOp Tryz.prog ops Q i J a w:=by
 subst hc
 exact op_sent hi hg ho ha ha2 hv hT hC hsm hn h
end
def MeansOk (s:Sg) (t:S30) (F:S37):Prop:=senP s t= .error 2∨∃m,senP s t= .ok m∧m.f0=F
theorem wants_y {ops:Array Oper} {o:Oper} {tmps:Array Value} {j:Nat} {want:Bool} (hg:o.guard=some (j,want)) (h:((ops[j]?).bind (·.dst)).bind (tmps[·]?)=some (.bool want)):Region.wanted o (yielded ops tmps)=true:=(wanted_if hg h).trans (by cases want<;>rfl)
theorem wants_n {ops:Array Oper} {o:Oper} {tmps:Array Value} {j:Nat} {want:Bool} (hg:o.guard=some (j,want)) (h:((ops[j]?).bind (·.dst)).bind (tmps[·]?)=some (.bool (!want))):Region.wanted o (yielded ops tmps)=false:=(wanted_if hg h).trans (by cases want<;>rfl)
theorem wants_u {ops:Array Oper} {o:Oper} {tmps:Array Value} {j:Nat} {want:Bool} (hg:o.guard=some (j,want)) (h:((ops[j]?).bind (·.dst)).bind (tmps[·]?)=some undef):Region.wanted o (yielded ops tmps)=false:=by
 unfold Region.wanted
 rw[hg]
 show (yielded ops tmps j == some want)=false
 unfold yielded
 rw[h]
 rfl
theorem wp_nil {P:Program} {ops:Array Oper} {Q:Exit→Act→World→Prop} {a:Act} {w:World} (h:Q .normal a w):wpList P ops Q [] a w:=h
section
attribute [local irreducible] wpList
set_option maxHeartbeats 2000000 in
set_option maxRecDepth 100000 in
/-- means (31): yes. -/
theorem means_calls (T:Lib.PrintTabs) (s:Sg) (t:S30) (F:S37) (w:World) (vt vF:Value) (hT:Tabs T w) (hC:s.C w) (ht:IsT w t vt) (hF:IsFm w F vF) (hsm:Sm t) (hn:nodes t≤500) (h:MeansOk s t F):Calls Tryz.prog 31 #[sgV s,vt,vF] w fun e w' =>e= .returned (.bool true)∧Below w.heap.size w w' :=by
 obtain ⟨c,hc⟩:∃c,codeOf (senP s t)=c:=⟨_,rfl⟩
 refine calls_frN 36 (fun j=>match j with | 0=>sgV s | 1=>vt | 2=>vF | _=>undef) Tryz.func31 (show Tryz.f31.body=some _ from rfl) (by kernel_rfl) ?_
 refine wp_seq (wp_region_list (list_op (i:=0) rfl (op_box26 rfl rfl rfl rfl hC fun w1 hS b1 s1=>fop rfl (by decide) (list_op (i:=1) rfl (op_box30v rfl rfl rfl rfl (ht.below b1) fun w2 hA b2 s2=>fop rfl (by decide) (list_op (i:=2) rfl (op_box37v rfl rfl rfl rfl (hF.below (below_step b1 b2)) fun w3 hG b3 s3=>fop rfl (by decide) (list_op (i:=3) rfl (op_asgc rfl rfl rfl (fop rfl (by decide) (wp_nil ?_)))))))))))
 rw[s1]at hA s2 ⊢
 rw[s2]at hG ⊢
 replace hS:=(hS.below b2).below b3
 replace hA:=hA.below b3
 have hB:=below_step (below_step b1 b2) b3
 clear b1 b2 b3 ht hF
 refine wp_seq (wp_region_list (list_op (i:=0) rfl (op_loadS rfl rfl rfl rfl hS (fop rfl (by decide) (list_op (i:=1) rfl (op_loadT rfl rfl rfl rfl hA fun v1 h1=>fop rfl (by decide) (list_op (i:=2) rfl (op_sentC (T:=T) (s:=s) (t:=t) rfl rfl rfl rfl rfl hc h1 (hT.below hB) hS.2 hsm hn fun u w4 hu b4=>fop rfl (by decide) (list_op (i:=3) rfl (op_mv (v:= .tuple #[u,.int .i64 c]) rfl rfl rfl rfl (fop rfl (by decide) (list_op (i:=4) rfl (op_ext (v:=u) rfl rfl rfl rfl rfl (fop rfl (by decide) (list_op (i:=5) rfl (op_ext (v:= .int .i64 c) rfl rfl rfl rfl rfl (fop rfl (by decide) (list_op (i:=6) rfl (op_new37 rfl rfl rfl (fop rfl (by decide) (list_op (i:=7) rfl (op_store37 rfl rfl rfl rfl rfl rfl (heap_alloc_new _ _) ((hu.mono (ok' :=fun k=>k≠w4.heap.size) (fun k _ hk=>by omega)).below (below_alloc (Below.refl _ _) _)) fun w5 h5 b5 s5=>(list_op (i:=8) rfl (op_asg (v:= .int .i64 c) rfl rfl rfl rfl (fop rfl (by decide) (wp_nil ?_))))))))))))))))))))))))))
 replace hG:=(hG.below b4).below ((below_alloc (Below.refl w4.heap.size w4) zero37).trans (b5 w4.heap.size (Nat.le_refl _)))
 replace hB:=(below_step hB b4).trans (((below_alloc (Below.refl w4.heap.size w4) zero37).trans (b5 w4.heap.size (Nat.le_refl _))).mono (below_step hB b4).size)
 clear b4 b5 s5 hu
 rcases h with h | ⟨m,h,rfl⟩
 ·obtain rfl:2=c:=by rw[←hc,h];rfl
  refine wp_seq (wp_region_list (list_op (i:=0) rfl (op_mv (v:= .int .i64 2) rfl rfl rfl rfl (fop rfl (by decide) (list_op (i:=1) rfl (op_eqc (n:=2) (m:=2) (b:=true) rfl rfl (by decide) rfl (by decide) rfl (fop rfl (by decide) (list_op (i:=2) rfl (op_mv (v:= .bool true) rfl rfl rfl rfl (fop rfl (by decide) (list_op (i:=3) rfl (op_skip rfl (wants_n rfl rfl) (fop rfl (by decide) (list_op (i:=4) rfl (op_skip rfl (wants_n rfl rfl) (fop rfl (by decide) (list_op (i:=5) rfl (op_skip rfl (wants_n rfl rfl) (fop rfl (by decide) (list_op (i:=6) rfl (op_skip rfl (wants_u rfl rfl) (fop rfl (by decide) (list_op (i:=7) rfl (op_skip rfl (wants_u rfl rfl) (fop rfl (by decide) (list_op (i:=8) rfl (op_skip rfl (wants_u rfl rfl) (fop rfl (by decide) (list_op (i:=9) rfl (op_skip rfl (wants_n rfl rfl) (fop rfl (by decide) (list_op (i:=10) rfl (op_pickT (b:=true) (c:=false) rfl rfl rfl rfl (fun h=>by cases h) (fop rfl (by decide) (list_op (i:=11) rfl (op_mv (v:= .bool true) rfl rfl rfl rfl (fop rfl (by decide) (list_op (i:=12) rfl (op_skip rfl (wants_n rfl rfl) (fop rfl (by decide) (list_op (i:=13) rfl (op_skip rfl (wants_n rfl rfl) (fop rfl (by decide) (list_op (i:=14) rfl (op_skip rfl (wants_n rfl rfl) (fop rfl (by decide) (list_op (i:=15) rfl (op_skip rfl (wants_u rfl rfl) (fop rfl (by decide) (list_op (i:=16) rfl (op_skip rfl (wants_u rfl rfl) (fop rfl (by decide) (list_op (i:=17) rfl (op_skip rfl (wants_u rfl rfl) (fop rfl (by decide) (list_op (i:=18) rfl (op_skip rfl (wants_u rfl rfl) (fop rfl (by decide) (list_op (i:=19) rfl (op_skip rfl (wants_n rfl rfl) (fop rfl (by decide) (list_op (i:=20) rfl (op_pickT (b:=true) (c:=false) rfl rfl rfl rfl (fun h=>by cases h) (fop rfl (by decide) (list_op (i:=21) rfl (op_asg (v:= .bool true) rfl rfl rfl rfl (fop rfl (by decide) (wp_nil (wp_ret ?_)))))))))))))))))))))))))))))))))))))))))))))))))))))))))))))))))))))
  exact bodyPost_yes (show Tryz.f31.results= #[.tmp 6]from rfl) rfl rfl hB
 ·obtain rfl:0=c:=by rw[←hc,h];rfl
  rw[h]at h5
  refine wp_seq (wp_region_list (list_op (i:=0) rfl (op_mv (v:= .int .i64 0) rfl rfl rfl rfl (fop rfl (by decide) (list_op (i:=1) rfl (op_eqc (n:=0) (m:=2) (b:=false) rfl rfl (by decide) rfl (by decide) rfl (fop rfl (by decide) (list_op (i:=2) rfl (op_mv (v:= .bool false) rfl rfl rfl rfl (fop rfl (by decide) (list_op (i:=3) rfl (wp_guard rfl (wants_y rfl rfl) fun o2 h2=>op_mv (v:= .int .i64 0) h2 rfl rfl rfl (fop rfl (by decide) (list_op (i:=4) rfl (wp_guard rfl (wants_y rfl rfl) fun o2 h2=>op_eqc (n:=0) (m:=1) (b:=false) h2 rfl (by decide) rfl (by decide) rfl (fop rfl (by decide) (list_op (i:=5) rfl (wp_guard rfl (wants_y rfl rfl) fun o2 h2=>op_mv (v:= .bool false) h2 rfl rfl rfl (fop rfl (by decide) (list_op (i:=6) rfl (op_skip rfl (wants_n rfl rfl) (fop rfl (by decide) (list_op (i:=7) rfl (op_skip rfl (wants_n rfl rfl) (fop rfl (by decide) (list_op (i:=8) rfl (op_skip rfl (wants_n rfl rfl) (fop rfl (by decide) (list_op (i:=9) rfl (wp_guard rfl (wants_y rfl rfl) fun o2 h2=>op_pickA (b:=false) (c:=false) h2 rfl rfl rfl (fun h=>by cases h) (fop rfl (by decide) (list_op (i:=10) rfl (op_pickT (b:=false) (c:=false) rfl rfl rfl rfl (fun _=>rfl) (fop rfl (by decide) (list_op (i:=11) rfl (op_mv (v:= .bool false) rfl rfl rfl rfl (fop rfl (by decide) (list_op (i:=12) rfl (wp_guard rfl (wants_y rfl rfl) fun o2 h2=>op_mv (v:= .int .i64 0) h2 rfl rfl rfl (fop rfl (by decide) (list_op (i:=13) rfl (wp_guard rfl (wants_y rfl rfl) fun o2 h2=>op_eqc (n:=0) (m:=0) (b:=true) h2 rfl (by decide) rfl (by decide) rfl (fop rfl (by decide) (list_op (i:=14) rfl (wp_guard rfl (wants_y rfl rfl) fun o2 h2=>op_mv (v:= .bool true) h2 rfl rfl rfl (fop rfl (by decide) (list_op (i:=15) rfl (wp_guard rfl (wants_y rfl rfl) fun o2 h2=>op_loadF h2 rfl rfl rfl hG fun v6 h6=>fop rfl (by decide) (list_op (i:=16) rfl (wp_guard rfl (wants_y rfl rfl) fun o2 h2=>op_loadF h2 rfl rfl rfl h5 fun v7 h7=>fop rfl (by decide) (list_op (i:=17) rfl (wp_guard rfl (wants_y rfl rfl) fun o2 h2=>op_cmpF h2 rfl rfl rfl rfl h6 h7 fun w8 b8=>fop rfl (by decide) (list_op (i:=18) rfl (wp_guard rfl (wants_y rfl rfl) fun o2 h2=>op_eqc (n:=0) (m:=0) (b:=true) h2 rfl (by decide) rfl (by decide) rfl (fop rfl (by decide) (list_op (i:=19) rfl (wp_guard rfl (wants_y rfl rfl) fun o2 h2=>op_pickA (b:=true) (c:=true) h2 rfl rfl rfl (fun _=>rfl) (fop rfl (by decide) (list_op (i:=20) rfl (op_pickT (b:=false) (c:=true) rfl rfl rfl rfl (fun _=>rfl) (fop rfl (by decide) (list_op (i:=21) rfl (op_asg (v:= .bool true) rfl rfl rfl rfl (fop rfl (by decide) (wp_nil (wp_ret ?_))))))))))))))))))))))))))))))))))))))))))))))))))))))))))))))))))
  exact bodyPost_yes (show Tryz.f31.results= #[.tmp 6]from rfl) rfl rfl (below_step hB b8)
end
section
variable {ops:Array Oper} {Q:Exit→Act→World→Prop} {i:Nat} {o:Oper} {J:Act→World→Prop} {a:Act} {w:World}
theorem op_means {T:Lib.PrintTabs} {s:Sg} {t:S30} {F:S37} {k k2 k3:Tmp} {v v2:Value} {ts:Array TypeId} (hi:ops[i]? =some o) (hg:o.guard=none) (ho:o.op= .call {callee:= .value (.func 31),args:= #[.tmp k,.tmp k2,.tmp k3],argTypes:=ts}) (ha:a.tmps[k]?.getD undef=sgV s) (ha2:a.tmps[k2]?.getD undef=v) (ha3:a.tmps[k3]?.getD undef=v2) (hv:IsT w t v) (hF:IsFm w F v2) (hT:Tabs T w) (hC:s.C w) (hsm:Sm t) (hn:nodes t≤500) (hm:MeansOk s t F) (h:∀w',Below w.heap.size w w' →J (a.put o.dst (.bool true)) w'):wpOp Tryz.prog ops Q i J a w:=by
 refine op_call (f:=31) (args:= #[sgV s,v,v2]) hi (wanted_none hg) ?_ ((means_calls T s t F w v v2 hT hC hv hF hsm hn hm).mono ?_)
 ·have he:=enters_of Tryz.func31 (by kernel_rfl) rfl #[sgV s,v,v2] w
  unfold execOp
  rw[ho]
  go_simp
 ·rintro e w' ⟨rfl,hB⟩
  exact ⟨_,rfl,h w' hB⟩
end
end
def Ms (m:S70):Prop:=1≤m.f1∧m.f1≤1073741824∧(m.f1=1073741824∨m.f2≤m.f1)
theorem ms_fold:∀(ks:List S70) (a d:Int),(∀k∈ks,Ms k)→1≤a→a≤1073741824→0≤d→(a=1073741824∨d<a)→1≤ks.foldl szF a∧ks.foldl szF a≤1073741824∧0≤ks.foldl dpF d∧(ks.foldl szF a=1073741824∨ks.foldl dpF d<ks.foldl szF a)
 | [],a,d,_,h1,h2,h3,h4=>⟨h1,h2,h3,h4⟩
 |k::r,a,d,h,h1,h2,h3,h4=>by
  obtain ⟨k1,k2,k3⟩:=h k (by simp)
  have e:szF a k=if 1073741824<a+k.f1 then 1073741824 else a+k.f1:=by
   unfold szF
   rw[wrap_small (by omega) (by omega)]
   rfl
  have e2:dpF d k=if d<k.f2 then k.f2 else d:=rfl
  refine ms_fold r (szF a k) (dpF d k) (fun x hx=>h x (by simp[hx])) ?_ ?_ ?_ ?_
  ·rw[e];split<;>omega
  ·rw[e];split<;>omega
  ·rw[e2];split<;>omega
  ·rw[e,e2]
   by_cases c1:1073741824<a+k.f1
   ·rw[if_pos c1];exact .inl rfl
   ·rw[if_neg c1]
    right
    split<;>omega
theorem ms_node (op:Int) (nm:ByteArray) (fr tl:Int) (ks:List S70) (h:∀k∈ks,Ms k):Ms (nodeP op nm fr tl ks):=by
 obtain ⟨h1,h2,h3,h4⟩:=ms_fold ks 1 0 h (by omega) (by omega) (by omega) (.inr (by omega))
 refine ⟨h1,h2,?_⟩
 rcases h4 with h4 | h4
 ·exact .inl h4
 ·right
  show wrap64 (ks.foldl dpF 0+1)≤ks.foldl szF 1
  rw[wrap_small (by omega) (by omega)]
  omega
theorem ms_1 {op:Int} {nm:ByteArray} {fr tl:Int} {m:S70} (h:Ms m):Ms (nodeP op nm fr tl [m]):=ms_node _ _ _ _ _ (fun k hk=>by rw[List.mem_singleton.1 hk];exact h)
theorem ms_2 {op:Int} {nm:ByteArray} {fr tl:Int} {m k:S70} (h:Ms m) (g:Ms k):Ms (nodeP op nm fr tl [m,k]):=ms_node _ _ _ _ _ (fun x hx=>by
 rcases List.mem_cons.1 hx with rfl | hx
 ·exact h
 ·rw[List.mem_singleton.1 hx];exact g)
theorem ms_atom {ps:List S107} {x:ByteArray} {d:Int} {ts:List Tm} {m:S70} (h:atomP ps x d ts=some m):Ms m:=by
 unfold atomP at h
 obtain ⟨p,_,e⟩:=map_some' h
 subst e
 exact ⟨Int.le_refl 1,by show (1:Int)≤_;omega,.inr (Int.le_refl 1)⟩
def PMs (f:Prd):Prop:=∀d x m,f d x=some m→Ms m
theorem pms_join {c v:Prd} (h:PMs c) (g:PMs v):PMs (joinP c v):=by
 intro d x m hm
 unfold joinP at hm
 obtain ⟨a,ha,hm⟩:=bind_some' hm
 obtain ⟨b,hb,hm⟩:=bind_some' hm
 injection hm with hm
 subst hm
 exact ms_2 (h _ _ _ ha) (g _ _ _ hb)
theorem pms_impl {c v:Prd} (h:PMs c) (g:PMs v):PMs (implP c v):=by
 intro d x m hm
 unfold implP at hm
 obtain ⟨a,ha,hm⟩:=bind_some' hm
 obtain ⟨b,hb,hm⟩:=bind_some' hm
 injection hm with hm
 subst hm
 exact ms_2 (h _ _ _ ha) (g _ _ _ hb)
theorem pms_none {c v:Prd} (h:PMs c) (g:PMs v):PMs (noneP c v):=by
 intro d x m hm
 unfold noneP at hm
 obtain ⟨a,ha,hm⟩:=bind_some' hm
 obtain ⟨b,hb,hm⟩:=bind_some' hm
 injection hm with hm
 subst hm
 exact ms_2 (h _ _ _ ha) (ms_1 (g _ _ _ hb))
theorem pms_exc {c e v:Prd} (h:PMs c) (h2:PMs e) (g:PMs v):PMs (exceptP c e v):=by
 intro d x m hm
 unfold exceptP at hm
 obtain ⟨a,ha,hm⟩:=bind_some' hm
 obtain ⟨a2,ha2,hm⟩:=bind_some' hm
 obtain ⟨b,hb,hm⟩:=bind_some' hm
 injection hm with hm
 subst hm
 exact ms_2 (ms_2 (h _ _ _ ha) (ms_1 (h2 _ _ _ ha2))) (g _ _ _ hb)
theorem ms_quant {ss:List ByteArray} {op:Int} {sort:ByteArray} {d:Int} {f:Prd} {m:S70} (h:quantP ss op sort d f=some m) (hf:PMs f):Ms m:=by
 unfold quantP at h
 obtain ⟨a,ha,e⟩:=map_some' h
 subst e
 exact ms_1 (op:=op) (nm:=sort) (fr:=0) (tl:=0) (hf _ _ _ ha)
theorem mean_ms (s:Sg):∀n,(∀t f,nounP s n t=some f→PMs f)∧(∀t f,verbP s n t=some f→PMs f)∧∀t d f m,PMs f→applyP s n t d f=some m→Ms m
 |0=>⟨fun t f h=>(by rw[nounP]at h;cases h),fun t f h=>(by rw[verbP]at h;cases h),fun t d f m _ h=>(by rw[applyP]at h;cases h)⟩
 |n+1=>by
  obtain ⟨hN,hV,hA⟩:=mean_ms s n
  refine ⟨fun t f h=> ?_,fun t f h=> ?_,fun t d f m hf h=> ?_⟩
  ·rw[nounP]at h
   split at h
   ·obtain ⟨_,_,rfl⟩:=map_some' h
    exact fun d x m hm=>ms_atom hm
   ·split at h
    ·obtain ⟨_,_,h⟩:=bind_some' h
     obtain ⟨c,hc,rfl⟩:=map_some' h
     intro d x m hm
     obtain ⟨a,ha,hm⟩:=bind_some' hm
     obtain ⟨b,hb,hm⟩:=bind_some' hm
     injection hm with hm
     subst hm
     exact ms_2 (ms_atom ha) (hN _ _ hc _ _ _ hb)
    ·obtain ⟨c,hc,h⟩:=bind_some' h
     obtain ⟨v,hv,rfl⟩:=map_some' h
     exact pms_join (hN _ _ hc) (hV _ _ hv)
  ·rw[verbP]at h
   split at h
   ·obtain ⟨c,hc,h⟩:=bind_some' h
    obtain ⟨v,hv,rfl⟩:=map_some' h
    exact pms_join (hV _ _ hc) (hV _ _ hv)
   ·obtain ⟨_,_,e⟩:=map_some' h
    subst e
    split
    ·exact fun d x m hm=>ms_atom hm
    ·split
     ·exact fun d x m hm=>ms_atom hm
     ·split
      ·exact fun d x m hm=>hA _ _ _ _ (fun _ _ _ h=>ms_atom h) hm
      ·exact fun d x m hm=>hA _ _ _ _ (fun _ _ _ h=>hA _ _ _ _ (fun _ _ _ h=>ms_atom h) h) hm
  ·rw[applyP]at h
   split at h
   ·obtain ⟨_,_,h⟩:=bind_some' h
    exact hf _ _ _ h
   ·split at h
    ·obtain ⟨a,ha,h⟩:=bind_some' h
     obtain ⟨b,hb,h⟩:=bind_some' h
     injection h with h
     subst h
     exact ms_2 (hA _ _ _ _ hf ha) (hA _ _ _ _ hf hb)
    ·obtain ⟨c,hc,h⟩:=bind_some' h
     obtain ⟨sort,_,h⟩:=bind_some' h
     have hc:=hN _ _ hc
     split at h
     ·exact ms_quant h (pms_join hc hf)
     ·split at h
      ·exact ms_quant h (pms_none hc hf)
      ·split at h
       ·obtain ⟨e,he,h⟩:=bind_some' h
        exact ms_quant h (pms_exc hc (hN _ _ he) hf)
       ·exact ms_quant h (pms_impl hc hf)
theorem ch_ok {A B:Bool} {r:Option S70} {m:S70} (h:chP A B r= .ok m):A=true∧B=true∧r=some m∧m.f3=false∧m.f1≤200∧m.f2≤32:=by
 unfold chP at h
 cases A<;>cases B<;>simp at h
 cases r with
 |none=>simp at h
 |some k =>
  simp only at h
  split at h
  ·cases h
  ·rename_i h3
   split at h
   ·cases h
   ·rename_i h4
    injection h with h
    subst h
    exact ⟨rfl,rfl,rfl,by simpa using h3,by omega,by omega⟩
theorem ch_some {m:S70} (h:m.f3=false):chP true true (some m)= .error 2∨chP true true (some m)= .ok m:=by
 unfold chP
 rw[if_neg (by decide),if_neg (by decide)]
 simp only[h]
 by_cases h4:200<m.f1∨32<m.f2
 ·left;rw[if_neg (by decide),if_pos h4]
 ·right;rw[if_neg (by decide),if_neg h4]
def npN (name:ByteArray):S30:=⟨nName,[],[⟨name,[],[]⟩]⟩
def tS (f name:ByteArray) (vp:S30):S30:=⟨f,[],[npN name,vp]⟩
def baseP (s:Sg) (name:ByteArray) (vp:S30):Option S70:=(verbP s (nodes vp) vp).bind fun v=>(sortOfP s.cs name).bind fun sort=>v 0 (conTm name sort)
theorem modal_base (s:Sg) (f name:ByteArray) (vp:S30) (op:Int) (neg:Bool):modalP s op neg (tS f name vp)=(baseP s name vp).map (dutyP op neg):=by
 show ((verbP s (nodes vp) vp).bind fun v=>applyP s 2 (npN name) 0 (modP op neg v))=_
 unfold baseP
 cases verbP s (nodes vp) vp with
 |none=>rfl
 |some v =>
  show applyP s 2 (npN name) 0 (modP op neg v)=Option.map (dutyP op neg) ((sortOfP s.cs name).bind fun sort=>v 0 (conTm name sort))
  rw[applyP,if_pos (isF_yes (n:=nName) rfl (by decide +kernel))]
  show ((sortOfP s.cs name).bind fun sort=>modP op neg v 0 (conTm name sort))=_
  cases sortOfP s.cs name<;>rfl
theorem fn_assert:fnOf structL nAssert=some ⟨nAssert,[cNP,cVP],cS,0⟩:=by kernel_rfl
theorem fn_must:fnOf structL nMust=some ⟨nMust,[cNP,cVP],cS,0⟩:=by kernel_rfl
theorem fn_mustnot:fnOf structL nMustNot=some ⟨nMustNot,[cNP,cVP],cS,0⟩:=by kernel_rfl
theorem fn_may:fnOf structL nMay=some ⟨nMay,[cNP,cVP],cS,0⟩:=by kernel_rfl
theorem formed_fn {f name:ByteArray} {vp:S30} (h:fnOf structL f=some ⟨f,[cNP,cVP],cS,0⟩):formedP structL (tS f name vp) cS=formedL structL [npN name,vp] [cNP,cVP]:=by
 rw[formedP_cat isCat_S,show (tS f name vp).f0=f from rfl,h]
 show (headFits ⟨f,[cNP,cVP],cS,0⟩ cS 0 2 && (true && formedL structL [npN name,vp] [cNP,cVP]))=_
 rw[show headFits ⟨f,[cNP,cVP],cS,0⟩ cS 0 2=true from by simp[headFits],Bool.true_and,Bool.true_and]
theorem res_fn {f name:ByteArray} {vp:S30} (h:notPro f=true):resP (tS f name vp)=(resP (npN name) && (resP vp && true)):=by
 rw[resP_eq]
 show (notPro f && resL [npN name,vp])=_
 rw[h,Bool.true_and];simp only[resL]
def okA (s:Sg) (name:ByteArray) (vp:S30):Bool:=sigOk s.ss s.cs s.ps && decide (nodes (npN name)+(nodes vp+0)+1≤60) && formedL structL [npN name,vp] [cNP,cVP]
def resA (name:ByteArray) (vp:S30):Bool:=resP (npN name) && (resP vp && true)
theorem senP_fn {s:Sg} {f name:ByteArray} {vp:S30} {r:Option S70} (h:fnOf structL f=some ⟨f,[cNP,cVP],cS,0⟩) (hn:notPro f=true) (hr:sentP s 60 (tS f name vp)=r):senP s (tS f name vp)=chP (okA s name vp) (resA name vp) r:=by
 unfold senP
 rw[formed_fn h,res_fn hn,hr]
 rfl
theorem sen_assert (s:Sg) (name:ByteArray) (vp:S30):senP s (tS nAssert name vp)=chP (okA s name vp) (resA name vp) ((baseP s name vp).map (dutyP 0 false)) :=
 senP_fn fn_assert (by decide +kernel) (by rw[sentP,if_pos (show (tS nAssert name vp).f0=nAssert from rfl),modal_base])
theorem sen_must (s:Sg) (name:ByteArray) (vp:S30):senP s (tS nMust name vp)=chP (okA s name vp) (resA name vp) ((baseP s name vp).map (dutyP 11 false)) :=
 senP_fn fn_must (by decide +kernel) (by rw[sentP,if_neg (show ¬(tS nMust name vp).f0=nAssert from (show ¬nMust=nAssert by decide +kernel)),if_pos (show (tS nMust name vp).f0=nMust from rfl),modal_base])
theorem sen_mustnot (s:Sg) (name:ByteArray) (vp:S30):senP s (tS nMustNot name vp)=chP (okA s name vp) (resA name vp) ((baseP s name vp).map (dutyP 11 true)) :=
 senP_fn fn_mustnot (by decide +kernel) (by rw[sentP,if_neg (show ¬(tS nMustNot name vp).f0=nAssert from (show ¬nMustNot=nAssert by decide +kernel)),if_neg (show ¬(tS nMustNot name vp).f0=nMust from (show ¬nMustNot=nMust by decide +kernel)),if_pos (show (tS nMustNot name vp).f0=nMustNot from rfl),modal_base])
theorem sen_may (s:Sg) (name:ByteArray) (vp:S30):senP s (tS nMay name vp)=chP (okA s name vp) (resA name vp) ((baseP s name vp).map (dutyP 12 false)) :=
 senP_fn fn_may (by decide +kernel) (by rw[sentP,if_neg (show ¬(tS nMay name vp).f0=nAssert from (show ¬nMay=nAssert by decide +kernel)),if_neg (show ¬(tS nMay name vp).f0=nMust from (show ¬nMay=nMust by decide +kernel)),if_neg (show ¬(tS nMay name vp).f0=nMustNot from (show ¬nMay=nMustNot by decide +kernel)),if_pos (show (tS nMay name vp).f0=nMay from rfl),modal_base])
theorem duty_0 (r:Option S70):r.map (dutyP 0 false)=r:=by cases r<;>rfl
def opF (op:Int) (l:List S37):S37:=⟨op,⟨#[]⟩,[],0,0,l⟩
theorem scope_yes {s:Sg} {name:ByteArray} {vp:S30} {m:S70} (h:senP s (tS nAssert name vp)= .ok m):MeansOk s (tS nMust name vp) (opF 11 [m.f0])∧MeansOk s (tS nMustNot name vp) (opF 11 [opF 4 [m.f0]])∧MeansOk s (tS nMay name vp) (opF 12 [m.f0]):=by
 rw[sen_assert,duty_0]at h
 obtain ⟨hA,hB,hr,h3,_,_⟩:=ch_ok h
 have go:∀f op neg,senP s (tS f name vp)=chP (okA s name vp) (resA name vp) ((baseP s name vp).map (dutyP op neg))→(dutyP op neg m).f3=false→MeansOk s (tS f name vp) (dutyP op neg m).f0:=by
  intro f op neg e e3
  unfold MeansOk
  rw[e,hA,hB,hr]
  rcases ch_some e3 with h | h
  ·exact .inl h
  ·exact .inr ⟨_,h,rfl⟩
 have e1:(dutyP 11 false m).f3=false:=by show (m.f3 || false)=false;rw[h3];rfl
 have e2:(dutyP 11 true m).f3=false:=by show ((m.f3 || false) || false)=false;rw[h3];rfl
 have e3:(dutyP 12 false m).f3=false:=by show (m.f3 || false)=false;rw[h3];rfl
 exact ⟨go _ _ _ (sen_must s name vp) e1,go _ _ _ (sen_mustnot s name vp) e2,go _ _ _ (sen_may s name vp) e3⟩
theorem scope_no {s:Sg} {name:ByteArray} {vp:S30} {c:Int} (h:senP s (tS nAssert name vp)= .error c):c≠0∧(codeOf (senP s (tS nMust name vp))=c∨codeOf (senP s (tS nMust name vp))=2):=by
 rw[sen_assert,duty_0]at h
 rw[sen_must]
 revert h
 cases okA s name vp with
 |false=>intro h;cases h;exact ⟨by decide,.inl rfl⟩
 |true =>
  cases resA name vp with
  |false=>intro h;cases h;exact ⟨by decide,.inl rfl⟩
  |true =>
   cases hb:baseP s name vp with
   |none=>intro h;cases h;exact ⟨by decide,.inl rfl⟩
   |some m =>
    intro h
    have hm:Ms m:=by
     unfold baseP at hb
     obtain ⟨v,hv,hb⟩:=bind_some' hb
     obtain ⟨sort,_,hb⟩:=bind_some' hb
     exact (mean_ms s _).2.1 _ _ hv _ _ _ hb
    unfold chP at h ⊢
    rw[if_neg (by decide),if_neg (by decide)]at h
    rw[if_neg (by decide),if_neg (by decide)]
    show c≠0∧(codeOf (if (dutyP 11 false m).f3=true then .error 6 else if 200<(dutyP 11 false m).f1∨32<(dutyP 11 false m).f2 then .error 2 else .ok (dutyP 11 false m))=c∨codeOf (if (dutyP 11 false m).f3=true then .error 6 else if 200<(dutyP 11 false m).f1∨32<(dutyP 11 false m).f2 then .error 2 else .ok (dutyP 11 false m))=2)
    have e1:(dutyP 11 false m).f3=m.f3:=by show (m.f3 || false)=m.f3;simp
    have e2:(dutyP 11 false m).f1=szF 1 m:=rfl
    have e3:(dutyP 11 false m).f2=wrap64 (dpF 0 m+1):=rfl
    simp only at h
    rw[e1,e2,e3]
    by_cases h3:m.f3=true
    ·rw[if_pos h3]at h
     injection h with h
     subst h
     rw[if_pos h3]
     exact ⟨by decide,.inl rfl⟩
    ·rw[if_neg h3]at h
     rw[if_neg h3]
     by_cases h4:200<m.f1∨32<m.f2
     ·rw[if_pos h4]at h
      injection h with h
      subst h
      refine ⟨by decide,.inl ?_⟩
      rw[if_pos]
      ·rfl
      ·obtain ⟨k1,k2,k3⟩:=hm
       by_cases h5:200<m.f1
       ·left
        unfold szF mn
        rw[wrap_small (by omega) (by omega)]
        split<;>omega
       ·right
        have h6:32<m.f2:=by omega
        unfold dpF mx
        split
        ·rw[wrap_small (by omega) (by omega)];omega
        ·omega
     ·rw[if_neg h4]at h
      cases h
end Go.Proofs.YtcfjomnihhdpaaaGreatDoor.A
