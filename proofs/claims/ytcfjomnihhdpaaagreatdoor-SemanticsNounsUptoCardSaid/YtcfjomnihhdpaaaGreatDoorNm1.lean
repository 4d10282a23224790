/-
  A part of the proof: Q33, Q34, Q35, Q37, Q41, Q36, Q42, Q43.
-/
import Derived.Test.YtcfjomnihhdpaaaGreatDoorNm0
namespace Go.Proofs.YtcfjomnihhdpaaaGreatDoor.A
open Go.RowKit Go.Proofs.YtcfjomnihhdpaaaGreatDoorW.PrintWords Go.Proofs.YtcfjomnihhdpaaaGreatDoorW.PrintLast Go.Proofs.YtcfjomnihhdpaaaGreatDoorW.PrintMore
set_option linter.unusedVariables false
set_option linter.unusedSimpArgs false
section
theorem nanI (x:Int) (w:World):Calls Tryz.prog 110 #[.int .i64 x] w fun e w' =>e= .returned (.bool false)∧w' =w:=by
 go_enter Tryz.func110,Tryz.ntmps110
 go_wp2
 go_ret
 exact ⟨by simp,rfl⟩
theorem nanS (x:ByteArray) (w:World):Calls Tryz.prog 111 #[.string x] w fun e w' =>e= .returned (.bool false)∧w' =w:=by
 go_enter Tryz.func111,Tryz.ntmps111
 go_wp2
 go_ret
 exact ⟨by simp,rfl⟩
theorem cmpI (x:Int) (w:World):Calls Tryz.prog 66 #[.int .i64 x,.int .i64 x] w fun e w' =>e= .returned (.int .i64 0)∧Below w.heap.size w w' :=by
 have C:=Aside0.mk (nanI x)
 have h:(x<x)=False:=eq_false (by omega)
 go_enter Tryz.func66,Tryz.ntmps66
 go_wp2_with (go_at_call 110;refine (C.out _).mono ?_;rintro e w2 ⟨rfl,rfl⟩)
 go_ret
 exact ⟨rfl,Below.refl _ _⟩
theorem less_self:∀l:List UInt8,Op.bytesLess l l=false
 | []=>rfl
 |a::r=>by simp[Op.bytesLess,less_self r]
theorem cmpS (x:ByteArray) (w:World):Calls Tryz.prog 67 #[.string x,.string x] w fun e w' =>e= .returned (.int .i64 0)∧Below w.heap.size w w' :=by
 have C:=Aside0.mk (nanS x)
 have h:=less_self x.toList
 go_enter Tryz.func67,Tryz.ntmps67
 go_wp2_with (go_at_call 111;refine (C.out _).mono ?_;rintro e w2 ⟨rfl,rfl⟩)
 go_ret
 exact ⟨rfl,Below.refl _ _⟩
theorem orI (n:Nat) (hn:n≤100) (w:World) (A:Option Addr) (c:Nat) (h:(Kd.int .i64).C w A n (List.replicate n 0)):Calls Tryz.prog 65 #[.slice A n c] w fun e w' =>e= .returned (.int .i64 0)∧Below w.heap.size w w' :=by
 have HA:=Aside0.mk h
 clear h
 go_enter Tryz.func65,Tryz.ntmps65
 go_wp2
 go_loopw [8] (fun i w' =>∃y:Int,i= .int .i64 y∧0≤y∧y≤n∧w' =w) (fun i _=>n-(intOf i).toNat)
 case atStart=>exact ⟨0,rfl,Int.le_refl _,Int.natCast_nonneg _,rfl⟩
 case round =>
  obtain ⟨y,rfl,hy,hyk,rfl⟩:=hrel
  by_cases hyl:y<n
  ·obtain ⟨ad,e,x0⟩:=Kd.at_int HA.out y hy hyl
   cases e
   rw[show rd (List.replicate n 0) y=0 by unfold rd;rw[List.getD_eq_getElem?_getD,List.getElem?_replicate,if_pos (by omega)];rfl]at x0
   go_wp2
   go_roundw
   case rel=>exact ⟨y+1,rfl,by omega,by omega,by simp⟩
   case measure=>simp[intOf];omega
  ·go_wp2
   go_ret
   exact ⟨rfl,Below.refl _ _⟩
section
variable {ops:Array Oper} {Q:Exit→Act→World→Prop} {i:Nat} {o:Oper} {J:Act→World→Prop} {a:Act} {w:World}
attribute [local go_sem] Oper.semAt_some
theorem op_fa59 {k:Tmp} {b m:Nat} (hi:ops[i]? =some o) (hg:o.guard=none) (hm:m<3) (ho:o.op= .fieldAddr 59 (.tmp k) m) (ha:a.tmps[k]?.getD undef= .pointer (some ⟨b,0,none⟩)) (h:J (a.put o.dst (.pointer (some ⟨b,m,none⟩))) w):wpOp Tryz.prog ops Q i J a w:=by
 rcases (show m=0∨m=1∨m=2 by omega)with rfl | rfl | rfl
 all_goals (
  refine op_value hi (wanted_none hg) (w' :=w) ?_ h
  unfold execOp
  rw[ho]
  go_simp)
theorem op_fa37 {k:Tmp} {b m:Nat} (hi:ops[i]? =some o) (hg:o.guard=none) (hm:m<6) (ho:o.op= .fieldAddr 37 (.tmp k) m) (ha:a.tmps[k]?.getD undef= .pointer (some ⟨b,0,none⟩)) (h:J (a.put o.dst (.pointer (some ⟨b,m,none⟩))) w):wpOp Tryz.prog ops Q i J a w:=by
 rcases (show m=0∨m=1∨m=2∨m=3∨m=4∨m=5 by omega)with rfl | rfl | rfl | rfl | rfl | rfl
 all_goals (
  refine op_value hi (wanted_none hg) (w' :=w) ?_ h
  unfold execOp
  rw[ho]
  go_simp)
theorem op_ld1 {T:TypeId} {k:Tmp} {b m:Nat} {v:Value} (hi:ops[i]? =some o) (hg:o.guard=none) (hT:T=3∨T=9∨T=34∨T=35) (ho:o.op= .load T (.tmp k)) (ha:a.tmps[k]?.getD undef= .pointer (some ⟨b,m,none⟩)) (hc:w.cell? ⟨b,m,none⟩=some v) (h:J (a.put o.dst v) w):wpOp Tryz.prog ops Q i J a w:=by
 rcases hT with rfl | rfl | rfl | rfl
 all_goals (
  refine op_value hi (wanted_none hg) (w' :=w) ?_ h
  unfold execOp
  rw[ho]
  go_simp)
theorem op_valC {f:FuncId} {xs:Array Operand} {vs:Array Value} {ts:Array TypeId} {v:Value} (hi:ops[i]? =some o) (hg:o.guard=none) (hen:Enters Tryz.prog f) (ho:o.op= .call {callee:= .value (.func f),args:=xs,argTypes:=ts}) (hx:xs.map a.eval=vs) (hc:Calls Tryz.prog f vs w fun e w' =>e= .returned v∧Below w.heap.size w w') (h:∀w',Below w.heap.size w w' →J (a.put o.dst v) w'):wpOp Tryz.prog ops Q i J a w:=by
 refine op_call hi (wanted_none hg) ?_ (hc.mono ?_)
 ·have he:=hen vs w
  subst hx
  unfold execOp
  rw[ho]
  simp[go_sem,resolve,Deferred.ofValue,invoke,he]
 ·rintro e w' ⟨rfl,hb⟩
  exact ⟨_,rfl,h w' hb⟩
def Kn.zs (n:Nat):Kn:=⟨fun v w=>∃A c,v= .slice A n c∧(Kd.int .i64).C w A n (List.replicate n 0),fun _ _ _ h hB=>by
 obtain ⟨A,c,e,h⟩:=h
 exact ⟨A,c,e,Kd.C_below h hB⟩⟩
theorem zs_new (w:World) (n:Nat) (hn:n≤100):(Kn.zs n).In (.slice (some ⟨w.heap.size,0,none⟩) n n) (w.alloc (.cells (List.replicate n (Value.int .i64 0)).toArray 3)):=by
 obtain ⟨A,c,he,hC⟩:=own_reads_row (R:=fun (x:Int) (cs:List Value)=>cs=[.int .i64 x]) (ps:=List.replicate n 0) (block_own (w:=w.alloc (.cells (List.replicate n (Value.int .i64 0)).toArray 3)) (cs:=List.replicate n (Value.int .i64 0)) (size:=1) (n:=n) (heap_alloc_new w _) (by simp) (by omega)) (by have:=Kd.reps_scalar (enc:=Value.int .i64) (List.replicate n 0);rwa [encs,List.map_replicate]at this) (by simp)
 injection he with he1 he2 he3
 subst he1
 exact ⟨_,_,rfl,hC⟩
theorem op_zs3 {k0 k1 k2:Tmp} (hi:ops[i]? =some o) (hg:o.guard=none) (ho:o.op= .buildSlice 27 3 #[(0,.tmp k0),(1,.tmp k1),(2,.tmp k2)]) (h0:a.tmps[k0]?.getD undef= .int .i64 0) (h1:a.tmps[k1]?.getD undef= .int .i64 0) (h2:a.tmps[k2]?.getD undef= .int .i64 0) (h:∀v w',(Kn.zs 3).In v w' →Below w.heap.size w w' →J (a.put o.dst v) w'):wpOp Tryz.prog ops Q i J a w:=by
 refine op_value hi (wanted_none hg) ?_ (h _ _ (zs_new w 3 (by decide)) (below_alloc (Below.refl _ _) _))
 unfold execOp
 rw[ho]
 go_simp
theorem op_zs6 {k0 k1 k2 k3 k4 k5:Tmp} (hi:ops[i]? =some o) (hg:o.guard=none) (ho:o.op= .buildSlice 27 6 #[(0,.tmp k0),(1,.tmp k1),(2,.tmp k2),(3,.tmp k3),(4,.tmp k4),(5,.tmp k5)]) (h0:a.tmps[k0]?.getD undef= .int .i64 0) (h1:a.tmps[k1]?.getD undef= .int .i64 0) (h2:a.tmps[k2]?.getD undef= .int .i64 0) (h3:a.tmps[k3]?.getD undef= .int .i64 0) (h4:a.tmps[k4]?.getD undef= .int .i64 0) (h5:a.tmps[k5]?.getD undef= .int .i64 0) (h:∀v w',(Kn.zs 6).In v w' →Below w.heap.size w w' →J (a.put o.dst v) w'):wpOp Tryz.prog ops Q i J a w:=by
 refine op_value hi (wanted_none hg) ?_ (h _ _ (zs_new w 6 (by decide)) (below_alloc (Below.refl _ _) _))
 unfold execOp
 rw[ho]
 go_simp
end
section
variable {ops:Array Oper} {Q:Exit→Act→World→Prop} {i:Nat} {o:Oper} {J:Act→World→Prop} {a:Act} {w:World}
attribute [local go_sem] Oper.semAt_some
theorem op_box59 {k:Tmp} {x:S59} (hi:ops[i]? =some o) (hg:o.guard=none) (ho:o.op= .box 59 (.tmp k)) (ha:a.tmps[k]?.getD undef= .agg #[.int .i64 x.f0,.int .i64 x.f1,.string x.f2]) (h:∀w',w'.heap[w.heap.size]? =some (.cells #[.int .i64 x.f0,.int .i64 x.f1,.string x.f2] 59 (0,0))→Below w.heap.size w w' →w'.heap.size=w.heap.size+1→J (a.put o.dst (.pointer (some ⟨w.heap.size,0,none⟩))) w'):wpOp Tryz.prog ops Q i J a w:=by
 refine op_value hi (wanted_none hg) (w' :=w.alloc (.cells #[.int .i64 x.f0,.int .i64 x.f1,.string x.f2] 59)) ?_ (h _ (blk_new w _) (below_alloc (Below.refl _ _) _) (by simp))
 unfold execOp
 rw[ho]
 go_simp
theorem op_box37 {k:Tmp} {x:S37} {A2:Option Addr} {c2:Nat} {A5:Option Addr} {c5:Nat} (hi:ops[i]? =some o) (hg:o.guard=none) (ho:o.op= .box 37 (.tmp k)) (ha:a.tmps[k]?.getD undef= .agg #[.int .i64 x.f0,.string x.f1,.slice A2 x.f2.length c2,.int .i64 x.f3,.int .i64 x.f4,.slice A5 x.f5.length c5]) (h:∀w',w'.heap[w.heap.size]? =some (.cells #[.int .i64 x.f0,.string x.f1,.slice A2 x.f2.length c2,.int .i64 x.f3,.int .i64 x.f4,.slice A5 x.f5.length c5] 37 (0,0))→Below w.heap.size w w' →w'.heap.size=w.heap.size+1→J (a.put o.dst (.pointer (some ⟨w.heap.size,0,none⟩))) w'):wpOp Tryz.prog ops Q i J a w:=by
 refine op_value hi (wanted_none hg) (w' :=w.alloc (.cells #[.int .i64 x.f0,.string x.f1,.slice A2 x.f2.length c2,.int .i64 x.f3,.int .i64 x.f4,.slice A5 x.f5.length c5] 37)) ?_ (h _ (blk_new w _) (below_alloc (Below.refl _ _) _) (by simp))
 unfold execOp
 rw[ho]
 go_simp
end
set_option maxHeartbeats 2000000 in
set_option maxRecDepth 100000 in
theorem refs_calls (r:S59) (w:World):Calls Tryz.prog 69 #[.agg #[.int .i64 r.f0,.int .i64 r.f1,.string r.f2],.agg #[.int .i64 r.f0,.int .i64 r.f1,.string r.f2]] w fun e w' =>e= .returned (.int .i64 0)∧Below w.heap.size w w' :=by
 refine calls_frN 22 (fun j=>match j with | 0=> .agg #[.int .i64 r.f0,.int .i64 r.f1,.string r.f2] | 1=> .agg #[.int .i64 r.f0,.int .i64 r.f1,.string r.f2] | _=>undef) Tryz.func69 (show Tryz.f69.body=some _ from rfl) (by kernel_rfl) ?_
 refine wp_seq (wp_region_list (list_op (i:=0) rfl (op_box59 rfl rfl rfl rfl fun u0 xa h0 s0=>fop rfl (by decide) (list_op (i:=1) rfl (op_box59 rfl rfl rfl rfl fun u1 xb h1 s1=>fop rfl (by decide) (list_op (i:=2) rfl (op_asgc rfl rfl rfl (fop rfl (by decide) ?_))))))))
 rw[s0]at xb s1 ⊢
 replace xa:=blk_below xa h1
 have hB:=below_step h0 h1
 have bw:∀{V},Below u1.drew.heap.size u1.drew V→Below u1.heap.size u1 V:=fun hB=>below_step (below_drew (Below.refl _ _)) hB
 refine wp_seq (region_kn0 22 (.is (.pointer (some ⟨w.heap.size,0,none⟩)):: .is (.int .i64 r.f0):: .is (.pointer (some ⟨(w.heap.size+1),0,none⟩)):: .is (.int .i64 r.f0):: .is (.int .i64 0):: .is (.pointer (some ⟨w.heap.size,1,none⟩)):: .is (.int .i64 r.f1):: .is (.pointer (some ⟨(w.heap.size+1),1,none⟩)):: .is (.int .i64 r.f1):: .is (.int .i64 0):: .is (.pointer (some ⟨w.heap.size,2,none⟩)):: .is (.string r.f2):: .is (.pointer (some ⟨(w.heap.size+1),2,none⟩)):: .is (.string r.f2):: .is (.int .i64 0):: .zs 3:: .is (.int .i64 0):: .is (.int .i64 0)::[]) [5,6,7,8,9,10,11,12,13,14,15,16,17,18,19,20,21,4] _ u1 (by kernel_rfl) (by kernel_rfl) ⟨
  fun q V J hB hq h hi=>op_fa59 hi rfl (by decide) rfl rfl (h _ _ rfl (.refl _ _)),
  fun q V J hB hq h hi=>op_ld1 hi rfl (by decide) rfl (hq 0 rfl) (blk_cell (blk_below xa (bw hB)) 0) (h _ _ rfl (.refl _ _)),
  fun q V J hB hq h hi=>op_fa59 hi rfl (by decide) rfl rfl (h _ _ rfl (.refl _ _)),
  fun q V J hB hq h hi=>op_ld1 hi rfl (by decide) rfl (hq 2 rfl) (blk_cell (blk_below xb (bw hB)) 0) (h _ _ rfl (.refl _ _)),
  fun q V J hB hq h hi=>op_valC hi rfl (enters_of Tryz.func66 (by kernel_rfl) rfl) rfl (by simp only[List.map_toArray,List.map_cons,List.map_nil];show #[q 1,q 3]=_;rw[show q 1=_ from hq 1 rfl,show q 3=_ from hq 3 rfl]) (cmpI r.f0 V) fun w1 hb=>h _ _ rfl hb,
  fun q V J hB hq h hi=>op_fa59 hi rfl (by decide) rfl rfl (h _ _ rfl (.refl _ _)),
  fun q V J hB hq h hi=>op_ld1 hi rfl (by decide) rfl (hq 5 rfl) (blk_cell (blk_below xa (bw hB)) 1) (h _ _ rfl (.refl _ _)),
  fun q V J hB hq h hi=>op_fa59 hi rfl (by decide) rfl rfl (h _ _ rfl (.refl _ _)),
  fun q V J hB hq h hi=>op_ld1 hi rfl (by decide) rfl (hq 7 rfl) (blk_cell (blk_below xb (bw hB)) 1) (h _ _ rfl (.refl _ _)),
  fun q V J hB hq h hi=>op_valC hi rfl (enters_of Tryz.func66 (by kernel_rfl) rfl) rfl (by simp only[List.map_toArray,List.map_cons,List.map_nil];show #[q 6,q 8]=_;rw[show q 6=_ from hq 6 rfl,show q 8=_ from hq 8 rfl]) (cmpI r.f1 V) fun w1 hb=>h _ _ rfl hb,
  fun q V J hB hq h hi=>op_fa59 hi rfl (by decide) rfl rfl (h _ _ rfl (.refl _ _)),
  fun q V J hB hq h hi=>op_ld1 hi rfl (by decide) rfl (hq 10 rfl) (blk_cell (blk_below xa (bw hB)) 2) (h _ _ rfl (.refl _ _)),
  fun q V J hB hq h hi=>op_fa59 hi rfl (by decide) rfl rfl (h _ _ rfl (.refl _ _)),
  fun q V J hB hq h hi=>op_ld1 hi rfl (by decide) rfl (hq 12 rfl) (blk_cell (blk_below xb (bw hB)) 2) (h _ _ rfl (.refl _ _)),
  fun q V J hB hq h hi=>op_valC hi rfl (enters_of Tryz.func67 (by kernel_rfl) rfl) rfl (by simp only[List.map_toArray,List.map_cons,List.map_nil];show #[q 11,q 13]=_;rw[show q 11=_ from hq 11 rfl,show q 13=_ from hq 13 rfl]) (cmpS r.f2 V) fun w1 hb=>h _ _ rfl hb,
  fun q V J hB hq h hi=>op_zs3 hi rfl rfl (hq 4 rfl) (hq 9 rfl) (hq 14 rfl) h,
  fun q V J hB hq h hi=>by obtain ⟨A,c,e,hz⟩:=hq 15 rfl;exact op_valC hi rfl (enters_of Tryz.func65 (by kernel_rfl) rfl) rfl (by simp only[List.map_toArray,List.map_cons,List.map_nil];show #[q 15]=_;rw[show q 15=_ from e]) (orI 3 (by decide) V A c hz) fun w1 hb=>h _ _ rfl hb,
  fun q V J hB hq h hi=>op_asg hi rfl rfl (hq 16 rfl) (h _ _ rfl (.refl _ _)),trivial⟩ ?_)
 intro q V hB9 hx
 refine wp_ret (bodyPost_ret (v:= .int .i64 0) ?_ rfl ⟨rfl,below_step hB (bw hB9)⟩)
 rw[←hx 17 (by decide)]
 exact results_tmp (show Tryz.f69.results= #[.tmp 4]from rfl) _ _ _
set_option maxHeartbeats 2000000 in
set_option maxRecDepth 100000 in
theorem cfR (l:List S59) (w:World) (A:Option Addr) (c:Nat) (B:Option Addr) (d:Nat) (hA:k59.C w A l.length l) (hB:k59.C w B l.length l) (hc:l.length≤c) (hd:l.length≤d):Calls Tryz.prog 68 #[.slice A l.length c,.slice B l.length d,.func (.func 69) #[] #[]] w fun e w' =>e= .returned (.int .i64 0)∧Below w.heap.size w w' :=by
 have HA:=Aside0.mk hA
 have HB:=Aside0.mk hB
 have HM:l.length≤9223372036854775807:=by
  have:=hA.2.1
  omega
 clear hA hB
 go_enter Tryz.func68,Tryz.ntmps68
 go_wp2
 go_loopw [13] (fun i w' =>∃y:Int,i= .int .i64 y∧0≤y∧y≤l.length∧Aside0 (Below w.heap.size w w')) (fun i _=>l.length-(intOf i).toNat)
 case atStart=>exact ⟨0,rfl,Int.le_refl _,Int.natCast_nonneg _,⟨Below.refl _ _⟩⟩
 case round =>
  obtain ⟨y,rfl,hy,hyk,HBL⟩:=hrel
  by_cases hyl:y<l.length
  ·obtain ⟨ada,e,x0,x1,x2⟩:=at_T59 HA.out y hy hyl
   cases e
   obtain ⟨adb,e,z0,z1,z2⟩:=at_T59 HB.out y hy hyl
   cases e
   have hm:rd_T59 l y∈l:=mem_get z59 l y hy hyl
   generalize rd_T59 l y=r at *
   replace x0:=pw_cell_below HBL.out x0
   replace x1:=pw_cell_below HBL.out x1
   replace x2:=pw_cell_below HBL.out x2
   have hz:=below_step HBL.out (below_alloc (Below.refl wr.heap.size wr) (.cells #[.int .i64 r.f0,.int .i64 r.f1,.string r.f2] 59))
   replace z0:=pw_cell_below hz z0
   replace z1:=pw_cell_below hz z1
   replace z2:=pw_cell_below hz z2
   have HX:=blk_alloc (blk_new wr (.cells #[.int .i64 r.f0,.int .i64 r.f1,.string r.f2] 59)) (.cells #[.int .i64 r.f0,.int .i64 r.f1,.string r.f2] 59)
   have HY:=new2 wr (.cells #[.int .i64 r.f0,.int .i64 r.f1,.string r.f2] 59) (.cells #[.int .i64 r.f0,.int .i64 r.f1,.string r.f2] 59)
   have a0:=blk_cell HX 0
   have b0:=blk_cell HY 0
   have a1:=blk_cell HX 1
   have b1:=blk_cell HY 1
   have a2:=blk_cell HX 2
   have b2:=blk_cell HY 2
   simp at a0 b0 a1 b1 a2 b2
   have BB:=Aside0.mk (below_step HBL.out (below_alloc (below_alloc (Below.refl wr.heap.size wr) (.cells #[.int .i64 r.f0,.int .i64 r.f1,.string r.f2] 59)) (.cells #[.int .i64 r.f0,.int .i64 r.f1,.string r.f2] 59)))
   have C:=Aside0.mk (refs_calls r ((wr.alloc (.cells #[.int .i64 r.f0,.int .i64 r.f1,.string r.f2] 59)).alloc (.cells #[.int .i64 r.f0,.int .i64 r.f1,.string r.f2] 59)))
   have p1:=eq_true hy
   have q1:=eq_true hyl
   have q2:((l.length:Int)≤y)=False:=eq_false (by omega)
   clear hz HX HY hm
   go_wp2_with (first | (go_at_call 69;refine C.out.mono ?_;rintro e w2 ⟨rfl,hB2⟩;have BB:=Aside0.mk (below_step BB.out hB2);clear hB2))
   go_roundw
   case rel=>exact ⟨y+1,rfl,by omega,by omega,BB⟩
   case measure=>simp[intOf];omega
  ·go_wp2
   go_ret
   exact ⟨rfl,HBL.out⟩
set_option maxHeartbeats 2000000 in
set_option maxRecDepth 100000 in
theorem cfF (l:List S37) (w:World) (ih:(∀x∈l,∀(V:World) (A2:Option Addr) (c2:Nat) (A5:Option Addr) (c5:Nat) (B2:Option Addr) (d2:Nat) (B5:Option Addr) (d5:Nat),FmC V x A2 c2 A5 c5→FmC V x B2 d2 B5 d5→Calls Tryz.prog 34 #[.agg #[.int .i64 x.f0,.string x.f1,.slice A2 x.f2.length c2,.int .i64 x.f3,.int .i64 x.f4,.slice A5 x.f5.length c5],.agg #[.int .i64 x.f0,.string x.f1,.slice B2 x.f2.length d2,.int .i64 x.f3,.int .i64 x.f4,.slice B5 x.f5.length d5]] V fun e w' =>e= .returned (.int .i64 0)∧Below V.heap.size V w')) (A:Option Addr) (c:Nat) (B:Option Addr) (d:Nat) (hA:k37.C w A l.length l) (hB:k37.C w B l.length l) (hc:l.length≤c) (hd:l.length≤d):Calls Tryz.prog 70 #[.slice A l.length c,.slice B l.length d,.func (.func 34) #[] #[]] w fun e w' =>e= .returned (.int .i64 0)∧Below w.heap.size w w' :=by
 have HA:=Aside0.mk hA
 have HB:=Aside0.mk hB
 have HM:l.length≤9223372036854775807:=by
  have:=hA.2.1
  omega
 have IH:=Aside0.mk ih
 clear ih
 clear hA hB
 go_enter Tryz.func70,Tryz.ntmps70
 go_wp2
 go_loopw [13] (fun i w' =>∃y:Int,i= .int .i64 y∧0≤y∧y≤l.length∧Aside0 (Below w.heap.size w w')) (fun i _=>l.length-(intOf i).toNat)
 case atStart=>exact ⟨0,rfl,Int.le_refl _,Int.natCast_nonneg _,⟨Below.refl _ _⟩⟩
 case round =>
  obtain ⟨y,rfl,hy,hyk,HBL⟩:=hrel
  by_cases hyl:y<l.length
  ·obtain ⟨ada,A2,c2,A5,c5,e,x0,x1,x2,x3,x4,x5,l2a,g2a,l5a,g5a⟩:=at_T37 HA.out y hy hyl
   cases e
   obtain ⟨adb,D2,e2,D5,e5,e,z0,z1,z2,z3,z4,z5,l2b,g2b,l5b,g5b⟩:=at_T37 HB.out y hy hyl
   cases e
   have hm:rd_T37 l y∈l:=mem_get z37 l y hy hyl
   generalize rd_T37 l y=r at *
   have FA:=Aside0.mk (show FmC w r A2 c2 A5 c5 from ⟨l2a,g2a,l5a,g5a⟩)
   have FB:=Aside0.mk (show FmC w r D2 e2 D5 e5 from ⟨l2b,g2b,l5b,g5b⟩)
   clear l2a g2a l5a g5a l2b g2b l5b g5b
   replace x0:=pw_cell_below HBL.out x0
   replace x1:=pw_cell_below HBL.out x1
   replace x2:=pw_cell_below HBL.out x2
   replace x3:=pw_cell_below HBL.out x3
   replace x4:=pw_cell_below HBL.out x4
   replace x5:=pw_cell_below HBL.out x5
   have hz:=below_step HBL.out (below_alloc (Below.refl wr.heap.size wr) (.cells #[.int .i64 r.f0,.string r.f1,.slice A2 r.f2.length c2,.int .i64 r.f3,.int .i64 r.f4,.slice A5 r.f5.length c5] 37))
   replace z0:=pw_cell_below hz z0
   replace z1:=pw_cell_below hz z1
   replace z2:=pw_cell_below hz z2
   replace z3:=pw_cell_below hz z3
   replace z4:=pw_cell_below hz z4
   replace z5:=pw_cell_below hz z5
   have HX:=blk_alloc (blk_new wr (.cells #[.int .i64 r.f0,.string r.f1,.slice A2 r.f2.length c2,.int .i64 r.f3,.int .i64 r.f4,.slice A5 r.f5.length c5] 37)) (.cells #[.int .i64 r.f0,.string r.f1,.slice D2 r.f2.length e2,.int .i64 r.f3,.int .i64 r.f4,.slice D5 r.f5.length e5] 37)
   have HY:=new2 wr (.cells #[.int .i64 r.f0,.string r.f1,.slice A2 r.f2.length c2,.int .i64 r.f3,.int .i64 r.f4,.slice A5 r.f5.length c5] 37) (.cells #[.int .i64 r.f0,.string r.f1,.slice D2 r.f2.length e2,.int .i64 r.f3,.int .i64 r.f4,.slice D5 r.f5.length e5] 37)
   have a0:=blk_cell HX 0
   have b0:=blk_cell HY 0
   have a1:=blk_cell HX 1
   have b1:=blk_cell HY 1
   have a2:=blk_cell HX 2
   have b2:=blk_cell HY 2
   have a3:=blk_cell HX 3
   have b3:=blk_cell HY 3
   have a4:=blk_cell HX 4
   have b4:=blk_cell HY 4
   have a5:=blk_cell HX 5
   have b5:=blk_cell HY 5
   simp at a0 b0 a1 b1 a2 b2 a3 b3 a4 b4 a5 b5
   have BB:=Aside0.mk (below_step HBL.out (below_alloc (below_alloc (Below.refl wr.heap.size wr) (.cells #[.int .i64 r.f0,.string r.f1,.slice A2 r.f2.length c2,.int .i64 r.f3,.int .i64 r.f4,.slice A5 r.f5.length c5] 37)) (.cells #[.int .i64 r.f0,.string r.f1,.slice D2 r.f2.length e2,.int .i64 r.f3,.int .i64 r.f4,.slice D5 r.f5.length e5] 37)))
   have C:=Aside0.mk (IH.out r hm _ _ _ _ _ _ _ _ _ (FA.out.below BB.out) (FB.out.below BB.out))
   have p1:=eq_true hy
   have q1:=eq_true hyl
   have q2:((l.length:Int)≤y)=False:=eq_false (by omega)
   clear hz HX HY hm
   go_wp2_with (first | (go_at_call 34;refine C.out.mono ?_;rintro e w2 ⟨rfl,hB2⟩;have BB:=Aside0.mk (below_step BB.out hB2);clear hB2))
   go_roundw
   case rel=>exact ⟨y+1,rfl,by omega,by omega,BB⟩
   case measure=>simp[intOf];omega
  ·go_wp2
   go_ret
   exact ⟨rfl,HBL.out⟩
set_option maxHeartbeats 2000000 in
set_option maxRecDepth 100000 in
theorem cmpF_step (f:S37) (ih:(∀x∈f.f5,∀(V:World) (A2:Option Addr) (c2:Nat) (A5:Option Addr) (c5:Nat) (B2:Option Addr) (d2:Nat) (B5:Option Addr) (d5:Nat),FmC V x A2 c2 A5 c5→FmC V x B2 d2 B5 d5→Calls Tryz.prog 34 #[.agg #[.int .i64 x.f0,.string x.f1,.slice A2 x.f2.length c2,.int .i64 x.f3,.int .i64 x.f4,.slice A5 x.f5.length c5],.agg #[.int .i64 x.f0,.string x.f1,.slice B2 x.f2.length d2,.int .i64 x.f3,.int .i64 x.f4,.slice B5 x.f5.length d5]] V fun e w' =>e= .returned (.int .i64 0)∧Below V.heap.size V w')) (w:World) (A2:Option Addr) (c2:Nat) (A5:Option Addr) (c5:Nat) (B2:Option Addr) (d2:Nat) (B5:Option Addr) (d5:Nat) (fv:FmC w f A2 c2 A5 c5) (gv:FmC w f B2 d2 B5 d5):Calls Tryz.prog 34 #[.agg #[.int .i64 f.f0,.string f.f1,.slice A2 f.f2.length c2,.int .i64 f.f3,.int .i64 f.f4,.slice A5 f.f5.length c5],.agg #[.int .i64 f.f0,.string f.f1,.slice B2 f.f2.length d2,.int .i64 f.f3,.int .i64 f.f4,.slice B5 f.f5.length d5]] w fun e w' =>e= .returned (.int .i64 0)∧Below w.heap.size w w' :=by
 refine calls_frN 37 (fun j=>match j with | 0=> .agg #[.int .i64 f.f0,.string f.f1,.slice A2 f.f2.length c2,.int .i64 f.f3,.int .i64 f.f4,.slice A5 f.f5.length c5] | 1=> .agg #[.int .i64 f.f0,.string f.f1,.slice B2 f.f2.length d2,.int .i64 f.f3,.int .i64 f.f4,.slice B5 f.f5.length d5] | _=>undef) Tryz.func34 (show Tryz.f34.body=some _ from rfl) (by kernel_rfl) ?_
 refine wp_seq (wp_region_list (list_op (i:=0) rfl (op_box37 rfl rfl rfl rfl fun u0 xa h0 s0=>fop rfl (by decide) (list_op (i:=1) rfl (op_box37 rfl rfl rfl rfl fun u1 xb h1 s1=>fop rfl (by decide) (list_op (i:=2) rfl (op_asgc rfl rfl rfl (fop rfl (by decide) ?_))))))))
 rw[s0]at xb s1 ⊢
 replace xa:=blk_below xa h1
 have hB:=below_step h0 h1
 have hB0:=hB
 have bw:∀{V},Below u1.drew.heap.size u1.drew V→Below u1.heap.size u1 V:=fun hB=>below_step (below_drew (Below.refl _ _)) hB
 refine wp_seq (region_kn0 37 (.is (.pointer (some ⟨w.heap.size,0,none⟩)):: .is (.int .i64 f.f0):: .is (.pointer (some ⟨(w.heap.size+1),0,none⟩)):: .is (.int .i64 f.f0):: .is (.int .i64 0):: .is (.pointer (some ⟨w.heap.size,1,none⟩)):: .is (.string f.f1):: .is (.pointer (some ⟨(w.heap.size+1),1,none⟩)):: .is (.string f.f1):: .is (.int .i64 0):: .is (.pointer (some ⟨w.heap.size,2,none⟩)):: .is (.slice A2 f.f2.length c2):: .is (.pointer (some ⟨(w.heap.size+1),2,none⟩)):: .is (.slice B2 f.f2.length d2):: .is (.int .i64 0):: .is (.pointer (some ⟨w.heap.size,3,none⟩)):: .is (.int .i64 f.f3):: .is (.pointer (some ⟨(w.heap.size+1),3,none⟩)):: .is (.int .i64 f.f3):: .is (.int .i64 0):: .is (.pointer (some ⟨w.heap.size,4,none⟩)):: .is (.int .i64 f.f4):: .is (.pointer (some ⟨(w.heap.size+1),4,none⟩)):: .is (.int .i64 f.f4):: .is (.int .i64 0):: .is (.pointer (some ⟨w.heap.size,5,none⟩)):: .is (.slice A5 f.f5.length c5):: .is (.pointer (some ⟨(w.heap.size+1),5,none⟩)):: .is (.slice B5 f.f5.length d5):: .is (.int .i64 0):: .zs 6:: .is (.int .i64 0):: .is (.int .i64 0)::[]) [5,6,7,8,9,10,11,12,13,14,15,16,17,18,19,20,21,22,23,24,25,26,27,28,29,30,31,32,33,34,35,36,4] _ u1 (by kernel_rfl) (by kernel_rfl) ⟨
  fun q V J hB hq h hi=>op_fa37 hi rfl (by decide) rfl rfl (h _ _ rfl (.refl _ _)),
  fun q V J hB hq h hi=>op_ld1 hi rfl (by decide) rfl (hq 0 rfl) (blk_cell (blk_below xa (bw hB)) 0) (h _ _ rfl (.refl _ _)),
  fun q V J hB hq h hi=>op_fa37 hi rfl (by decide) rfl rfl (h _ _ rfl (.refl _ _)),
  fun q V J hB hq h hi=>op_ld1 hi rfl (by decide) rfl (hq 2 rfl) (blk_cell (blk_below xb (bw hB)) 0) (h _ _ rfl (.refl _ _)),
  fun q V J hB hq h hi=>op_valC hi rfl (enters_of Tryz.func66 (by kernel_rfl) rfl) rfl (by simp only[List.map_toArray,List.map_cons,List.map_nil];show #[q 1,q 3]=_;rw[show q 1=_ from hq 1 rfl,show q 3=_ from hq 3 rfl]) (cmpI f.f0 V) fun w1 hb=>h _ _ rfl hb,
  fun q V J hB hq h hi=>op_fa37 hi rfl (by decide) rfl rfl (h _ _ rfl (.refl _ _)),
  fun q V J hB hq h hi=>op_ld1 hi rfl (by decide) rfl (hq 5 rfl) (blk_cell (blk_below xa (bw hB)) 1) (h _ _ rfl (.refl _ _)),
  fun q V J hB hq h hi=>op_fa37 hi rfl (by decide) rfl rfl (h _ _ rfl (.refl _ _)),
  fun q V J hB hq h hi=>op_ld1 hi rfl (by decide) rfl (hq 7 rfl) (blk_cell (blk_below xb (bw hB)) 1) (h _ _ rfl (.refl _ _)),
  fun q V J hB hq h hi=>op_valC hi rfl (enters_of Tryz.func67 (by kernel_rfl) rfl) rfl (by simp only[List.map_toArray,List.map_cons,List.map_nil];show #[q 6,q 8]=_;rw[show q 6=_ from hq 6 rfl,show q 8=_ from hq 8 rfl]) (cmpS f.f1 V) fun w1 hb=>h _ _ rfl hb,
  fun q V J hB hq h hi=>op_fa37 hi rfl (by decide) rfl rfl (h _ _ rfl (.refl _ _)),
  fun q V J hB hq h hi=>op_ld1 hi rfl (by decide) rfl (hq 10 rfl) (blk_cell (blk_below xa (bw hB)) 2) (h _ _ rfl (.refl _ _)),
  fun q V J hB hq h hi=>op_fa37 hi rfl (by decide) rfl rfl (h _ _ rfl (.refl _ _)),
  fun q V J hB hq h hi=>op_ld1 hi rfl (by decide) rfl (hq 12 rfl) (blk_cell (blk_below xb (bw hB)) 2) (h _ _ rfl (.refl _ _)),
  fun q V J hB hq h hi=>op_valC hi rfl (enters_of Tryz.func68 (by kernel_rfl) rfl) rfl (by simp only[List.map_toArray,List.map_cons,List.map_nil];show #[q 11,q 13,.func (.func 69) #[] #[]]=_;rw[show q 11=_ from hq 11 rfl,show q 13=_ from hq 13 rfl]) (cfR f.f2 V A2 c2 B2 d2 (Kd.C_below fv.a (below_step hB0 (bw hB))) (Kd.C_below gv.a (below_step hB0 (bw hB))) fv.l2 gv.l2) fun w1 hb=>h _ _ rfl hb,
  fun q V J hB hq h hi=>op_fa37 hi rfl (by decide) rfl rfl (h _ _ rfl (.refl _ _)),
  fun q V J hB hq h hi=>op_ld1 hi rfl (by decide) rfl (hq 15 rfl) (blk_cell (blk_below xa (bw hB)) 3) (h _ _ rfl (.refl _ _)),
  fun q V J hB hq h hi=>op_fa37 hi rfl (by decide) rfl rfl (h _ _ rfl (.refl _ _)),
  fun q V J hB hq h hi=>op_ld1 hi rfl (by decide) rfl (hq 17 rfl) (blk_cell (blk_below xb (bw hB)) 3) (h _ _ rfl (.refl _ _)),
  fun q V J hB hq h hi=>op_valC hi rfl (enters_of Tryz.func66 (by kernel_rfl) rfl) rfl (by simp only[List.map_toArray,List.map_cons,List.map_nil];show #[q 16,q 18]=_;rw[show q 16=_ from hq 16 rfl,show q 18=_ from hq 18 rfl]) (cmpI f.f3 V) fun w1 hb=>h _ _ rfl hb,
  fun q V J hB hq h hi=>op_fa37 hi rfl (by decide) rfl rfl (h _ _ rfl (.refl _ _)),
  fun q V J hB hq h hi=>op_ld1 hi rfl (by decide) rfl (hq 20 rfl) (blk_cell (blk_below xa (bw hB)) 4) (h _ _ rfl (.refl _ _)),
  fun q V J hB hq h hi=>op_fa37 hi rfl (by decide) rfl rfl (h _ _ rfl (.refl _ _)),
  fun q V J hB hq h hi=>op_ld1 hi rfl (by decide) rfl (hq 22 rfl) (blk_cell (blk_below xb (bw hB)) 4) (h _ _ rfl (.refl _ _)),
  fun q V J hB hq h hi=>op_valC hi rfl (enters_of Tryz.func66 (by kernel_rfl) rfl) rfl (by simp only[List.map_toArray,List.map_cons,List.map_nil];show #[q 21,q 23]=_;rw[show q 21=_ from hq 21 rfl,show q 23=_ from hq 23 rfl]) (cmpI f.f4 V) fun w1 hb=>h _ _ rfl hb,
  fun q V J hB hq h hi=>op_fa37 hi rfl (by decide) rfl rfl (h _ _ rfl (.refl _ _)),
  fun q V J hB hq h hi=>op_ld1 hi rfl (by decide) rfl (hq 25 rfl) (blk_cell (blk_below xa (bw hB)) 5) (h _ _ rfl (.refl _ _)),
  fun q V J hB hq h hi=>op_fa37 hi rfl (by decide) rfl rfl (h _ _ rfl (.refl _ _)),
  fun q V J hB hq h hi=>op_ld1 hi rfl (by decide) rfl (hq 27 rfl) (blk_cell (blk_below xb (bw hB)) 5) (h _ _ rfl (.refl _ _)),
  fun q V J hB hq h hi=>op_valC hi rfl (enters_of Tryz.func70 (by kernel_rfl) rfl) rfl (by simp only[List.map_toArray,List.map_cons,List.map_nil];show #[q 26,q 28,.func (.func 34) #[] #[]]=_;rw[show q 26=_ from hq 26 rfl,show q 28=_ from hq 28 rfl]) (cfF f.f5 V ih A5 c5 B5 d5 (Kd.C_below fv.k (below_step hB0 (bw hB))) (Kd.C_below gv.k (below_step hB0 (bw hB))) fv.l5 gv.l5) fun w1 hb=>h _ _ rfl hb,
  fun q V J hB hq h hi=>op_zs6 hi rfl rfl (hq 4 rfl) (hq 9 rfl) (hq 14 rfl) (hq 19 rfl) (hq 24 rfl) (hq 29 rfl) h,
  fun q V J hB hq h hi=>by obtain ⟨A,c,e,hz⟩:=hq 30 rfl;exact op_valC hi rfl (enters_of Tryz.func65 (by kernel_rfl) rfl) rfl (by simp only[List.map_toArray,List.map_cons,List.map_nil];show #[q 30]=_;rw[show q 30=_ from e]) (orI 6 (by decide) V A c hz) fun w1 hb=>h _ _ rfl hb,
  fun q V J hB hq h hi=>op_asg hi rfl rfl (hq 31 rfl) (h _ _ rfl (.refl _ _)),trivial⟩ ?_)
 intro q V hB9 hx
 refine wp_ret (bodyPost_ret (v:= .int .i64 0) ?_ rfl ⟨rfl,below_step hB (bw hB9)⟩)
 rw[←hx 32 (by decide)]
 exact results_tmp (show Tryz.f34.results= #[.tmp 4]from rfl) _ _ _
theorem cmpF_aux:∀(n:Nat) (f:S37),SizeOf.sizeOf f≤n→∀(w:World) (A2:Option Addr) (c2:Nat) (A5:Option Addr) (c5:Nat) (B2:Option Addr) (d2:Nat) (B5:Option Addr) (d5:Nat),FmC w f A2 c2 A5 c5→FmC w f B2 d2 B5 d5→Calls Tryz.prog 34 #[.agg #[.int .i64 f.f0,.string f.f1,.slice A2 f.f2.length c2,.int .i64 f.f3,.int .i64 f.f4,.slice A5 f.f5.length c5],.agg #[.int .i64 f.f0,.string f.f1,.slice B2 f.f2.length d2,.int .i64 f.f3,.int .i64 f.f4,.slice B5 f.f5.length d5]] w fun e w' =>e= .returned (.int .i64 0)∧Below w.heap.size w w'
 |0,f,hn=>absurd hn (by cases f;simp)
 | n+1,f,hn=>fun w A2 c2 A5 c5 B2 d2 B5 d5 fv gv=>cmpF_step f (fun x hx=>cmpF_aux n x (by
   have:=List.sizeOf_lt_of_mem hx
   have:SizeOf.sizeOf f.f5<SizeOf.sizeOf f:=by cases f;simp;omega
   omega)) w A2 c2 A5 c5 B2 d2 B5 d5 fv gv
theorem cmpF_calls (f:S37) (w:World) (A2:Option Addr) (c2:Nat) (A5:Option Addr) (c5:Nat) (B2:Option Addr) (d2:Nat) (B5:Option Addr) (d5:Nat) (fv:FmC w f A2 c2 A5 c5) (gv:FmC w f B2 d2 B5 d5):Calls Tryz.prog 34 #[.agg #[.int .i64 f.f0,.string f.f1,.slice A2 f.f2.length c2,.int .i64 f.f3,.int .i64 f.f4,.slice A5 f.f5.length c5],.agg #[.int .i64 f.f0,.string f.f1,.slice B2 f.f2.length d2,.int .i64 f.f3,.int .i64 f.f4,.slice B5 f.f5.length d5]] w fun e w' =>e= .returned (.int .i64 0)∧Below w.heap.size w w' :=cmpF_aux _ f (Nat.le_refl _) w A2 c2 A5 c5 B2 d2 B5 d5 fv gv
end
section
structure XK where
 In:World→(Nat→Prop)→Value→Prop
 below:∀{w w' ok v},In w ok v→Below w.heap.size w w' →In w' ok v
 mono:∀{w ok ok' v},In w ok v→(∀k,ok k→k<w.heap.size→ok' k)→In w ok' v
def EX (K:XK) (v p:Value) (w:World):Prop:=∀u g,(∃cs:List Value,v= .tuple (u::cs).toArray)→p= .pointer (some ⟨g,0,none⟩)→K.In w (fun k=>k≠g) u
theorem EX.below {K:XK} {v p:Value} {w w' :World} (h:EX K v p w) (hB:Below w.heap.size w w'):EX K v p w' :=fun u g h1 h2=>K.below (h u g h1 h2) hB
theorem EX.call {K:XK} {w w' :World} {u p:Value} {cs:List Value} {B0:Nat} {z:Obj} (hu:K.In w' (fun k=>k<B0∨w.heap.size≤k) u) (hp:∃g,p= .pointer (some ⟨g,0,none⟩)∧B0≤g∧w.heap[g]? =some z):EX K (.tuple (u::cs).toArray) p w' :=by
 obtain ⟨g,rfl,h0,hz⟩:=hp
 rintro u' g' ⟨cs',he⟩ hg
 obtain rfl:=tuple_head he
 injection hg with hg
 injection hg with hg
 injection hg with hg
 subst hg
 have:=blk_lt hz
 exact K.mono hu (fun k hk _=>by omega)
theorem EX.new {K:XK} {w:World} {u v:Value} {cs:List Value} (o:Obj) (hv:v= .tuple (u::cs).toArray) (hu:K.In w (fun _=>True) u):EX K v (.pointer (some ⟨w.heap.size,0,none⟩)) (w.alloc o):=by
 subst hv
 rintro u' g' ⟨cs',he⟩ hg
 obtain rfl:=tuple_head he
 injection hg with hg
 injection hg with hg
 injection hg with hg
 subst hg
 exact K.below (K.mono hu (fun k _ hk=>by omega)) (below_alloc (Below.refl _ _) o)
def parX (c i:Nat):Nat:=if i=c+1 then c else if i=c+2 then c+1 else i
def CX (c al L:Nat) (ks:List Kn) (pv:Nat→Value) (K:XK) (z:Obj) (cs:List Value) (N i:Nat) (v u:Value) (w:World):Prop :=
 if i<c then (ks.getD i .top).In v w else if i=c then ∃x,v= .tuple (x::cs).toArray∧K.In w (fun _=>True) x else if i=c+1 then v=u∧∃x,v= .tuple (x::cs).toArray
 else if i=c+2 then ∃cs' :List Value,u= .tuple (v::cs').toArray else if i=al then ∃g,v= .pointer (some ⟨g,0,none⟩)∧N≤g∧w.heap[g]? =some z else if i=L then True else v=pv i
def PX (c al L:Nat) (pv:Nat→Value) (cs:List Value) (i:Nat) (v:Value):Prop:=if i=c+1 then ∃x,v= .tuple (x::cs).toArray else if c+2<i∧i≠al∧i≠L then v=pv i else True
section
variable {c al L:Nat} {ks:List Kn} {pv:Nat→Value} {K:XK} {z:Obj} {cs:List Value} {N:Nat} {v u:Value} {w:World}
theorem CX.slot {i:Nat} (h:i<c):CX c al L ks pv K z cs N i v u w=(ks.getD i .top).In v w:=by unfold CX;rw[if_pos h]
theorem CX.call:CX c al L ks pv K z cs N c v u w=∃x,v= .tuple (x::cs).toArray∧K.In w (fun _=>True) x:=by unfold CX;rw[if_neg (by omega),if_pos rfl]
theorem CX.mv:CX c al L ks pv K z cs N (c+1) v u w=(v=u∧∃x,v= .tuple (x::cs).toArray):=by unfold CX;rw[if_neg (by omega),if_neg (by omega),if_pos rfl]
theorem CX.ext:CX c al L ks pv K z cs N (c+2) v u w=∃cs' :List Value,u= .tuple (v::cs').toArray:=by unfold CX;rw[if_neg (by omega),if_neg (by omega),if_neg (by omega),if_pos rfl]
theorem CX.new (h:c+2<al):CX c al L ks pv K z cs N al v u w=∃g,v= .pointer (some ⟨g,0,none⟩)∧N≤g∧w.heap[g]? =some z:=by unfold CX;rw[if_neg (by omega),if_neg (by omega),if_neg (by omega),if_neg (by omega),if_pos rfl]
theorem CX.late {i:Nat} (h:c+2<i) (h1:i≠al) (h2:i≠L):CX c al L ks pv K z cs N i v u w=(v=pv i):=by unfold CX;rw[if_neg (by omega),if_neg (by omega),if_neg (by omega),if_neg (by omega),if_neg h1,if_neg h2]
theorem CX.P {i:Nat} (h:CX c al L ks pv K z cs N i v u w):PX c al L pv cs i v:=by
 unfold PX
 by_cases h1:i=c+1
 ·rw[if_pos h1];subst h1;rw[CX.mv]at h;exact h.2
 ·rw[if_neg h1]
  by_cases h2:c+2<i∧i≠al∧i≠L
  ·rw[if_pos h2];rwa [CX.late h2.1 h2.2.1 h2.2.2]at h
  ·rw[if_neg h2];trivial
end
theorem hd_of {ops:Array Oper} {md:Region.Mode} {c i j L:Nat} {o:Oper} {C:Nat→Prop} (hpar:(List.range ops.size).all (fun i=>parX c i == i || (Dep md ops (parX c i) i && !(i == L) && !(parX c i == L)))=true) (ho:ops[i]? =some o) (hj:parX c i=j) (hne:j≠i) (hd:∀e∈o.after,Region.binds md e=true→C e.on):C j:=by
 have hi:=(Array.getElem?_eq_some_iff.1 ho).1
 have h1:=List.all_eq_true.1 hpar i (List.mem_range.2 hi)
 rw[hj,Bool.or_eq_true]at h1
 rcases h1 with h1 | h1
 ·exact absurd (eq_of_beq h1) hne
 ·rw[Bool.and_eq_true,Bool.and_eq_true]at h1
  have h2:=h1.1.1
  unfold Dep at h2
  rw[ho]at h2
  obtain ⟨e,he,hw⟩:=List.any_eq_true.1 (show (o.after.toList.any fun e=>Region.binds md e && (e.on == j))=true by simpa using h2)
  rw[Bool.and_eq_true]at hw
  rw[←eq_of_beq hw.2]
  exact hd e (Array.mem_toList_iff.1 he) hw.1
theorem region_x {ops:Array Oper} {Q:Exit→Act→World→Prop} {id:Nat} (c al L n:Nat) (ks:List Kn) (pv:Nat→Value) (lt:Nat→Bool) (KS:List Nat) (f:Nat→Value) (W:World) (K:XK) (z:Obj) (At:World→Nat→Prop) (cs:List Value)
  (hL:L<ops.size) (hix:c+2<al∧al<L) (hfit:fitB ops n KS=true)
  (hlow:(List.range ops.size).all (fun i=>((ops[i]?).map fun o=>o.after.all fun e=> !Region.binds .any e || decide (e.on<i)).getD true)=true)
  (hto:(List.range L).all (fun i=>lt i || (List.range (L+1)).any fun j=>decide (i<j) && Dep .any ops i j && !(lt j))=true)
  (hbe:(List.range ops.size).all (fun j=>decide (j≤L) || Dep .any ops L j)=true)
  (hpar:(List.range ops.size).all (fun i=>parX c i == i || (Dep .any ops (parX c i) i && !(i == L) && !(parX c i == L)))=true)
  (hll:lt L=false) (hlt:lt al=false∧∀i,i≤c+2→lt i=false)
  (hst:StepsP ops Q (fun x=>frN n (sl x f KS)) W.drew ks ops.toList 0 c)
  (hcall:∀o x w J,ops[c]? =some o→Below W.drew.heap.size W.drew w→(∀j,j<c→waits o j=true→(ks.getD j .top).In (x j) w)→(∀u w',K.In w' (fun k=>k<W.heap.size∨w.heap.size≤k) u→Below w.heap.size w w' →J ((frN n (sl x f KS)).put o.dst (.tuple (u::cs).toArray)) w')→wpOp Tryz.prog ops Q c J (frN n (sl x f KS)) w)
  (h1:∀o x w J,ops[c+1]? =some o→J ((frN n (sl x f KS)).put o.dst (x c)) w→wpOp Tryz.prog ops Q (c+1) J (frN n (sl x f KS)) w)
  (h2:∀o x w J u (cs' :List Value),ops[c+2]? =some o→x (c+1)= .tuple (u::cs').toArray→J ((frN n (sl x f KS)).put o.dst u) w→wpOp Tryz.prog ops Q (c+2) J (frN n (sl x f KS)) w)
  (h3:∀o x w J,ops[al]? =some o→J ((frN n (sl x f KS)).put o.dst (.pointer (some ⟨w.heap.size,0,none⟩))) (w.alloc z)→wpOp Tryz.prog ops Q al J (frN n (sl x f KS)) w)
  (h4:∀o x w J g,ops[L]? =some o→x al= .pointer (some ⟨g,0,none⟩)→w.heap[g]? =some z→K.In w (fun k=>k≠g) (x (c+2))→(∀w',At w' g→(∀B,B≤g→Below B w w')→J ((frN n (sl x f KS)).put o.dst undef) w')→wpOp Tryz.prog ops Q L J (frN n (sl x f KS)) w)
  (h5:∀i o x w J,c+2<i→i≠al→i≠L→ops[i]? =some o→(∀j,waits o j=true→j≠L→PX c al L pv cs j (x j))→J ((frN n (sl x f KS)).put o.dst (pv i)) w→wpOp Tryz.prog ops Q i J (frN n (sl x f KS)) w)
  (fin:∀x w,(∃g,x al= .pointer (some ⟨g,0,none⟩)∧At w g∧W.heap.size≤g)→(∀i,i<ops.size→c+2<i→i≠al→i≠L→x i=pv i)→Below W.heap.size W w→Q .normal (frN n (sl x f KS)) w) :
  Code.wp Tryz.prog (.region id ops true) Q (frN n f) W:=by
 have HD:=below_drew (Below.refl W.heap.size W)
 obtain ⟨q1,q2⟩:=hix
 obtain ⟨q3,q4⟩:=hlt
 rw[frN_sl n f KS]
 refine wp_region_any (by kernel_rfl) (region_two L hL (fun x=>frN n (sl x f KS)) (parX c) lt (CX c al L ks pv K z cs W.heap.size) (fun i v _=>PX c al L pv cs i v) c al (EX K) (fun v w=>(∃g,v= .pointer (some ⟨g,0,none⟩)∧At w g∧W.heap.size≤g)∧Below W.heap.size W w) W.drew hlow hto hbe hpar hll (fun i o x v ho=>fit_put hfit f i o x v ho) (fun i v u w h=>h.P) (fun i v u w w' h hB=> ?_) (fun _ _ _ _ h hB=>EX.below h hB) (fun i o x w J dn hi ho hB hd hdn h=> ?_) ⟨by omega,q2,by omega,q4 c (by omega),q3⟩ (fun o x w J ho hB hx hE h=> ?_) (fun i o x w J hl ho hd h=> ?_) (fun x w hx hD=>fin x w hD.1 (fun i hi h0 ha hs=> ?_) hD.2) _)
 ·rcases Nat.lt_trichotomy i c with hc | rfl | hc
  ·rw[CX.slot hc]at h ⊢
   exact (ks.getD i .top).st _ _ _ h hB
  ·rw[CX.call]at h ⊢
   exact h.imp fun x hx=>⟨hx.1,K.below hx.2 hB⟩
  ·by_cases e1:i=c+1
   ·subst e1;rw[CX.mv]at h ⊢;exact h
   ·by_cases e2:i=c+2
    ·subst e2;rw[CX.ext]at h ⊢;exact h
    ·by_cases e3:i=al
     ·subst e3;rw[CX.new q1]at h ⊢
      exact h.imp fun g hg=>⟨hg.1,hg.2.1,blk_below hg.2.2 hB⟩
     ·by_cases e4:i=L
      ·subst e4
       unfold CX
       rw[if_neg (by omega),if_neg (by omega),if_neg e1,if_neg e2,if_neg e3,if_pos rfl]
       trivial
      ·rw[CX.late (by omega) e3 e4]at h ⊢;exact h
 ·have hBW:=below_step HD hB
  rcases Nat.lt_trichotomy i c with hc | rfl | hc
  ·have s1:=stepsP_at ops.toList 0 c hst i o hc (by simpa using ho)
   rw[Nat.zero_add]at s1
   refine s1 x w J hB (fun j hj=> ?_) (fun v w' hv hb=>h v w' (by rw[CX.slot hc];exact hv) (fun e=>absurd e (by omega)) (fun e=>absurd e (by omega)) hb) ho
   have hjl:=deps_waits (C:=fun j=>j<i) rfl (fun e he hb=>by
    have t1:=List.all_eq_true.1 hlow i (List.mem_range.2 (by omega))
    rw[ho]at t1
    have t2:=Array.all_eq_true'.1 (show (o.after.all fun e=> !Region.binds .any e || decide (e.on<i))=true from t1) e he
    rw[hb]at t2
    simpa using t2) j hj
   have s2:=deps_waits (C:=fun j=>CX c al L ks pv K z cs W.heap.size j (x j) (x (parX c j)) w) rfl hd j hj
   rwa [CX.slot (by omega)]at s2
  ·refine hcall o x w J ho hB (fun j hj hw=> ?_) (fun u w' hu hb=>h _ w' (by rw[CX.call];exact ⟨u,rfl,K.mono hu (fun _ _ _=>trivial)⟩) (fun _ hq=>EX.call hu (by have:=hdn al hq q2;rwa [CX.new q1]at this)) (fun e=>absurd e (by omega)) hb)
   have s2:=deps_waits (C:=fun j=>CX i al L ks pv K z cs W.heap.size j (x j) (x (parX i j)) w) rfl hd j hw
   rwa [CX.slot hj]at s2
  ·by_cases e1:i=c+1
   ·subst e1
    have hp:=List.all_eq_true.1 hpar (c+1) (List.mem_range.2 (by omega))
    have hu:upd x (c+1) (x c) (parX c (c+1))=x c:=by unfold upd parX;rw[if_pos rfl,if_neg (by omega)]
    refine h1 o x w J ho (h _ w ?_ (fun e=>absurd e (by omega)) (fun e=>absurd e (by omega)) (Below.refl _ _))
    rw[CX.mv,hu]
    refine ⟨rfl,?_⟩
    have hc1:=hd_of (C:=fun j=>CX c al L ks pv K z cs W.heap.size j (x j) (x (parX c j)) w) hpar ho (by unfold parX;rw[if_pos rfl]) (by omega) hd
    rw[CX.call]at hc1
    exact hc1.imp fun _ hx=>hx.1
   ·by_cases e2:i=c+2
    ·subst e2
     have hu:∀v,upd x (c+2) v (parX c (c+2))=x (c+1):=fun v=>by rw[show parX c (c+2)=c+1 by unfold parX;rw[if_neg (by omega),if_pos rfl]];unfold upd;rw[if_neg (by omega)]
     have hc1:=hd_of (C:=fun j=>CX c al L ks pv K z cs W.heap.size j (x j) (x (parX c j)) w) hpar ho (by unfold parX;rw[if_neg (by omega),if_pos rfl]) (by omega) hd
     rw[CX.mv]at hc1
     obtain ⟨_,y,hy⟩:=hc1
     exact h2 o x w J y cs ho hy (h _ w (by rw[CX.ext,hu];exact ⟨cs,hy⟩) (fun e=>absurd e (by omega)) (fun e=>absurd e (by omega)) (Below.refl _ _))
    ·by_cases e3:i=al
     ·subst e3
      refine h3 o x w J ho (h _ _ (by rw[CX.new q1];exact ⟨w.heap.size,rfl,hBW.size,heap_alloc_new _ _⟩) (fun e=>absurd e (by omega)) (fun _ hq=> ?_) (below_alloc (Below.refl _ _) _))
      have:=hdn c hq (by omega)
      rw[CX.call]at this
      obtain ⟨u,e,hu⟩:=this
      exact EX.new _ e hu
     ·have e4:i≠L:=by omega
      exact h5 i o x w J (by omega) e3 e4 ho (fun j hj hn=>(deps_waits (C:=fun j=>CX c al L ks pv K z cs W.heap.size j (x j) (x (parX c j)) w) rfl hd j hj).P) (h _ w (by rw[CX.late (by omega) e3 e4]) (fun e=>absurd e (by omega)) (fun e=>absurd e (by omega)) (Below.refl _ _))
 ·have k0:=hx al q2 q3
  rw[CX.new q1]at k0
  obtain ⟨g,eg,hg0,hz⟩:=k0
  have k1:=hx (c+2) (by omega) (q4 _ (by omega))
  rw[CX.ext,show parX c (c+2)=c+1 by unfold parX;rw[if_neg (by omega),if_pos rfl]]at k1
  obtain ⟨cs',e2⟩:=k1
  have k2:=hx (c+1) (by omega) (q4 _ (by omega))
  rw[CX.mv,show parX c (c+1)=c by unfold parX;rw[if_pos rfl]]at k2
  have hF:=hE (x (c+2)) g ⟨cs',k2.1.symm.trans e2⟩ eg
  exact h4 o x w J g ho eg hz hF fun w' h37 hbel=>h undef w' ⟨⟨g,eg,h37,hg0⟩,below_step HD (hB.trans (hbel W.drew.heap.size hg0))⟩
 ·have hi3:c+2<i:=by
   rcases hl with hl | hl
   ·rcases Nat.lt_or_ge (c+2) i with h | h
    ·exact h
    ·rw[q4 i h]at hl;cases hl
   ·omega
  have e3:i≠al:=fun e=>by
   rcases hl with hl | hl
   ·rw[e,q3]at hl;cases hl
   ·omega
  have e4:i≠L:=fun e=>by
   rcases hl with hl | hl
   ·rw[e,hll]at hl;cases hl
   ·omega
  exact h5 i o x w J hi3 e3 e4 ho (fun j hj hn=>deps_waits (C:=fun j=>j≠L→PX c al L pv cs j (x j)) rfl hd j hj hn) (h _ (by unfold PX;rw[if_neg (by omega),if_pos ⟨hi3,e3,e4⟩]))
 ·have:=hx i hi hs
  unfold PX at this
  rwa [if_neg (by omega),if_pos ⟨h0,ha,hs⟩]at this
def XK.f (r:Except Int S70):XK:=⟨fun w ok v=>IsF w ok r v,fun h hB=>h.below hB,fun h hi=>h.mono hi⟩
theorem region_x37g {ops:Array Oper} {Q:Exit→Act→World→Prop} {id:Nat} (c al L n:Nat) (ks:List Kn) (pv:Nat→Value) (lt:Nat→Bool) (KS:List Nat) (f:Nat→Value) (W:World) (r:Except Int S70) (cs:List Value)
  (hL:L<ops.size) (hix:c+2<al∧al<L) (hfit:fitB ops n KS=true)
  (hlow:(List.range ops.size).all (fun i=>((ops[i]?).map fun o=>o.after.all fun e=> !Region.binds .any e || decide (e.on<i)).getD true)=true)
  (hto:(List.range L).all (fun i=>lt i || (List.range (L+1)).any fun j=>decide (i<j) && Dep .any ops i j && !(lt j))=true)
  (hbe:(List.range ops.size).all (fun j=>decide (j≤L) || Dep .any ops L j)=true)
  (hpar:(List.range ops.size).all (fun i=>parX c i == i || (Dep .any ops (parX c i) i && !(i == L) && !(parX c i == L)))=true)
  (hll:lt L=false) (hlt:lt al=false∧∀i,i≤c+2→lt i=false)
  (hst:StepsP ops Q (fun x=>frN n (sl x f KS)) W.drew ks ops.toList 0 c)
  (hcall:∀o x w J,ops[c]? =some o→Below W.drew.heap.size W.drew w→(∀j,j<c→waits o j=true→(ks.getD j .top).In (x j) w)→(∀u w',IsF w' (fun k=>w.heap.size≤k) r u→Below w.heap.size w w' →J ((frN n (sl x f KS)).put o.dst (.tuple (u::cs).toArray)) w')→wpOp Tryz.prog ops Q c J (frN n (sl x f KS)) w)
  (h1:∀o x w J,ops[c+1]? =some o→J ((frN n (sl x f KS)).put o.dst (x c)) w→wpOp Tryz.prog ops Q (c+1) J (frN n (sl x f KS)) w)
  (h2:∀o x w J u (cs' :List Value),ops[c+2]? =some o→x (c+1)= .tuple (u::cs').toArray→J ((frN n (sl x f KS)).put o.dst u) w→wpOp Tryz.prog ops Q (c+2) J (frN n (sl x f KS)) w)
  (h3:∀o x w J,ops[al]? =some o→J ((frN n (sl x f KS)).put o.dst (.pointer (some ⟨w.heap.size,0,none⟩))) (w.alloc zero37)→wpOp Tryz.prog ops Q al J (frN n (sl x f KS)) w)
  (h4:∀o x w J g,ops[L]? =some o→x al= .pointer (some ⟨g,0,none⟩)→w.heap[g]? =some zero37→IsF w (fun k=>k≠g) r (x (c+2))→(∀w',At37 w' g r→(∀B,B≤g→Below B w w')→J ((frN n (sl x f KS)).put o.dst undef) w')→wpOp Tryz.prog ops Q L J (frN n (sl x f KS)) w)
  (h5:∀i o x w J,c+2<i→i≠al→i≠L→ops[i]? =some o→(∀j,waits o j=true→j≠L→PX c al L pv cs j (x j))→J ((frN n (sl x f KS)).put o.dst (pv i)) w→wpOp Tryz.prog ops Q i J (frN n (sl x f KS)) w)
  (fin:∀x w,(∃g,x al= .pointer (some ⟨g,0,none⟩)∧At37 w g r∧W.heap.size≤g)→(∀i,i<ops.size→c+2<i→i≠al→i≠L→x i=pv i)→Below W.heap.size W w→Q .normal (frN n (sl x f KS)) w) :
  Code.wp Tryz.prog (.region id ops true) Q (frN n f) W :=
 region_x c al L n ks pv lt KS f W (.f r) zero37 (fun w g=>At37 w g r) cs hL hix hfit hlow hto hbe hpar hll hlt hst (fun o x w J ho hB hx h=>hcall o x w J ho hB hx fun u w' hu hb=>h u w' (hu.mono fun k hk _=> .inr hk) hb) h1 h2 h3 h4 h5 fin
end
section
attribute [local go_sem] Oper.semAt_some
def Kn.isT (t:S30):Kn:=⟨fun v w=>IsT w t v,fun _ _ _ h hB=>h.below hB⟩
def Kn.isL (l:List S30):Kn:=⟨fun v w=>IsL w l v,fun _ _ _ h hB=>h.below hB⟩
def IsFm (w:World) (F:S37) (v:Value):Prop:=∃A2 c2 A5 c5,v= .agg #[.int .i64 F.f0,.string F.f1,.slice A2 F.f2.length c2,.int .i64 F.f3,.int .i64 F.f4,.slice A5 F.f5.length c5]∧FmC w F A2 c2 A5 c5
def IsFs (w:World) (l:List S37) (v:Value):Prop:=∃A c,v= .slice A l.length c∧l.length≤c∧k37.C w A l.length l
theorem IsFm.below {w w' :World} {F:S37} {v:Value} (h:IsFm w F v) (hB:Below w.heap.size w w'):IsFm w' F v:=by
 obtain ⟨A2,c2,A5,c5,e,h⟩:=h
 exact ⟨A2,c2,A5,c5,e,h.below hB⟩
theorem IsFs.below {w w' :World} {l:List S37} {v:Value} (h:IsFs w l v) (hB:Below w.heap.size w w'):IsFs w' l v:=by
 obtain ⟨A,c,e,h1,h2⟩:=h
 exact ⟨A,c,e,h1,Kd.C_below h2 hB⟩
def Kn.fm (F:S37):Kn:=⟨fun v w=>IsFm w F v,fun _ _ _ h hB=>h.below hB⟩
def Kn.fs (l:List S37):Kn:=⟨fun v w=>IsFs w l v,fun _ _ _ h hB=>h.below hB⟩
def AtF (w:World) (g:Nat) (F:S37):Prop:=∃A2 c2 A5 c5,w.heap[g]? =some (.cells #[.int .i64 F.f0,.string F.f1,.slice A2 F.f2.length c2,.int .i64 F.f3,.int .i64 F.f4,.slice A5 F.f5.length c5] 37 (0,0))∧FmC w F A2 c2 A5 c5
theorem AtF.below {w w' :World} {g:Nat} {F:S37} (h:AtF w g F) (hB:Below w.heap.size w w'):AtF w' g F:=by
 obtain ⟨A2,c2,A5,c5,h1,h2⟩:=h
 exact ⟨A2,c2,A5,c5,blk_below h1 hB,h2.below hB⟩
theorem fs_blk {W:World} {g:Nat} (l:List S37) (cs:List Value) (hg:W.heap[g]? =some (.cells cs.toArray 37)) (hR:Reps (fun x c=>k37.K W x c) 6 l cs) (hn:l.length≤1000):IsFs W l (.slice (some ⟨g,0,none⟩) l.length l.length):=by
 obtain ⟨A,c,he,hC⟩:=own_reads_row (block_own (size:=6) (n:=l.length) hg (by rw[hR.1]) (by omega)) hR rfl
 injection he with he1 he2 he3
 subst he1
 exact ⟨_,_,rfl,Nat.le_refl _,hC⟩
theorem FmC.reps {w:World} {F:S37} {A2 A5:Option Addr} {c2 c5:Nat} (h:FmC w F A2 c2 A5 c5):Reps (fun x c=>k37.K w x c) 6 [F] [.int .i64 F.f0,.string F.f1,.slice A2 F.f2.length c2,.int .i64 F.f3,.int .i64 F.f4,.slice A5 F.f5.length c5]:=by
 have h:=(Reps.none (fun (x:S37) c=>k37.K w x c) 6).snoc (k37_mk w F h.l2 h.a h.l5 h.k) rfl
 simpa using h
section
variable {ops:Array Oper} {Q:Exit→Act→World→Prop} {i:Nat} {o:Oper} {J:Act→World→Prop} {a:Act} {w:World}
theorem op_loadF {F:S37} {k:Tmp} {g:Nat} (hi:ops[i]? =some o) (hg:o.guard=none) (ho:o.op= .load 37 (.tmp k)) (ha:a.tmps[k]?.getD undef= .pointer (some ⟨g,0,none⟩)) (hh:AtF w g F) (h:∀u,IsFm w F u→J (a.put o.dst u) w):wpOp Tryz.prog ops Q i J a w:=by
 obtain ⟨A2,c2,A5,c5,hb,hF⟩:=hh
 have h:=h _ ⟨A2,c2,A5,c5,rfl,hF⟩
 have x0:=blk_cell hb 0
 have x1:=blk_cell hb 1
 have x2:=blk_cell hb 2
 have x3:=blk_cell hb 3
 have x4:=blk_cell hb 4
 have x5:=blk_cell hb 5
 simp at x0 x1 x2 x3 x4 x5
 refine op_value hi (wanted_none hg) (w' :=w) ?_ h
 unfold execOp
 rw[ho]
 go_simp
theorem op_fs2 {F G:S37} {k k2:Tmp} {v v2:Value} (hi:ops[i]? =some o) (hg:o.guard=none) (ho:o.op= .buildSlice 35 2 #[(0,.tmp k),(1,.tmp k2)]) (ha:a.tmps[k]?.getD undef=v) (ha2:a.tmps[k2]?.getD undef=v2) (hv:IsFm w F v) (hv2:IsFm w G v2) (h:∀u w',IsFs w' [F,G] u→Below w.heap.size w w' →J (a.put o.dst u) w'):wpOp Tryz.prog ops Q i J a w:=by
 obtain ⟨A2,c2,A5,c5,rfl,hF⟩:=hv
 obtain ⟨B2,d2,B5,d5,rfl,hG⟩:=hv2
 have hB:=below_alloc (Below.refl w.heap.size w) (.cells #[.int .i64 F.f0,.string F.f1,.slice A2 F.f2.length c2,.int .i64 F.f3,.int .i64 F.f4,.slice A5 F.f5.length c5,.int .i64 G.f0,.string G.f1,.slice B2 G.f2.length d2,.int .i64 G.f3,.int .i64 G.f4,.slice B5 G.f5.length d5] 37)
 refine op_value hi (wanted_none hg) ?_ (h _ _ (fs_blk [F,G] _ (heap_alloc_new w _) (Kd.reps_append (hF.below hB).reps (hG.below hB).reps) (by simp)) hB)
 unfold execOp
 rw[ho]
 go_simp
theorem op_box26 {k:Tmp} {s:Sg} (hi:ops[i]? =some o) (hg:o.guard=none) (ho:o.op= .box 26 (.tmp k)) (ha:a.tmps[k]?.getD undef=sgV s) (hC:s.C w) (h:∀w',AtS w' w.heap.size s→Below w.heap.size w w' →w'.heap.size=w.heap.size+1→J (a.put o.dst (.pointer (some ⟨w.heap.size,0,none⟩))) w'):wpOp Tryz.prog ops Q i J a w:=by
 unfold sgV at ha
 refine op_value hi (wanted_none hg) (w' :=w.alloc (.cells #[.slice s.A0 s.ss.length s.c0,.slice s.A1 s.cs.length s.c1,.slice s.A2 s.ps.length s.c2] 26)) ?_ (h _ ⟨blk_new w _,SigC.below hC (below_alloc (Below.refl _ _) _)⟩ (below_alloc (Below.refl _ _) _) (by simp))
 unfold execOp
 rw[ho]
 go_simp
theorem op_eqc {T:TypeId} {k:Tmp} {n m:Int} {b:Bool} (hi:ops[i]? =some o) (hg:o.guard=none) (hT:T=38∨T=3) (ho:o.op= .binOp .eql T (.tmp k) (.const (.int .i64 m)) T) (hb:(n == m)=b) (ha:a.tmps[k]?.getD undef= .int .i64 n) (h:J (a.put o.dst (.bool b)) w):wpOp Tryz.prog ops Q i J a w:=by
 subst hb
 rcases hT with rfl | rfl
 all_goals (
  refine op_value hi (wanted_none hg) (w' :=w) ?_ h
  unfold execOp
  rw[ho]
  go_simp)
theorem op_nec {k:Tmp} {n m:Int} {b:Bool} (hi:ops[i]? =some o) (hg:o.guard=none) (ho:o.op= .binOp .neq 38 (.tmp k) (.const (.int .i64 m)) 38) (hb:(n != m)=b) (ha:a.tmps[k]?.getD undef= .int .i64 n) (h:J (a.put o.dst (.bool b)) w):wpOp Tryz.prog ops Q i J a w:=by
 subst hb
 refine op_value hi (wanted_none hg) (w' :=w) ?_ h
 unfold execOp
 rw[ho]
 go_simp
theorem op_len {k:Tmp} {x:ByteArray} (hi:ops[i]? =some o) (hg:o.guard=none) (ho:o.op= .call {callee:= .builtin .len,args:= #[.tmp k],argTypes:= #[9]}) (ha:a.tmps[k]?.getD undef= .string x) (h:J (a.put o.dst (.int .i64 x.size)) w):wpOp Tryz.prog ops Q i J a w:=by
 refine op_value hi (wanted_none hg) (w' :=w) ?_ h
 unfold execOp
 rw[ho]
 go_simp
theorem op_treeN {nm:ByteArray} {l:List S30} {xs:Array Operand} {v:Value} (hi:ops[i]? =some o) (hg:o.guard=none) (ho:o.op= .call {callee:= .value (.func 32),args:=xs,argTypes:= #[9,28]}) (hx:xs.map a.eval= #[.string nm,v]) (hv:IsL w l v) (h:∀u w',IsT w' ⟨nm,[],l⟩ u→Below w.heap.size w w' →J (a.put o.dst u) w'):wpOp Tryz.prog ops Q i J a w:=by
 refine op_call (f:=32) (args:= #[.string nm,v]) hi (wanted_none hg) ?_ ((tree_callsT nm l v w hv).mono ?_)
 ·have he:=enters_of Tryz.func32 (by kernel_rfl) rfl #[.string nm,v] w
  unfold execOp
  rw[ho]
  simp[go_sem,resolve,Deferred.ofValue,invoke,he,hx]
 ·rintro e w' ⟨u,rfl,hu,hB⟩
  exact ⟨u,rfl,h u w' hu hB⟩
end
set_option maxHeartbeats 2000000 in
set_option maxRecDepth 100000 in
/-- join (33). -/
theorem join_calls (op:Int) (l:List S37) (v:Value) (w:World) (h:IsFs w l v):Calls Tryz.prog 33 #[.int .i64 op,v] w fun e w' =>∃u,e= .returned u∧IsFm w' ⟨op,⟨#[]⟩,[],0,0,l⟩ u∧Below w.heap.size w w' :=by
 obtain ⟨A,c,rfl,hl,hC⟩:=h
 have HC:=Aside0.mk hC
 clear hC
 go_enter Tryz.func33,Tryz.ntmps33
 go_wp2
 refine bodyPost_ret (results_single rfl (.cell w.heap.size 37 _ (0,0) _ rfl (blk_new w (.cells #[.int .i64 op,.string ⟨#[]⟩,.slice none 0 0,.int .i64 0,.int .i64 0,.slice A l.length c] 37)) Tryz.underlying37 rfl (by kernel_rfl) .nil)) rfl ?_
 have hB:=below_alloc (Below.refl w.heap.size w) (.cells #[.int .i64 op,.string ⟨#[]⟩,.slice none 0 0,.int .i64 0,.int .i64 0,.slice A l.length c] 37)
 exact ⟨_,rfl,⟨none,0,A,c,rfl,Nat.le_refl _,Kd.C_nil _ _,hl,Kd.C_below HC.out hB⟩,hB⟩
set_option maxHeartbeats 2000000 in
set_option maxRecDepth 100000 in
/-- long (14): it answers. -/
theorem long_calls (s:Sg) (w:World):Calls Tryz.prog 14 #[sgV s] w fun e w' =>∃b,e= .returned (.bool b)∧True∧Below w.heap.size w w' :=by
 have HB:=Aside0.mk (below_alloc (Below.refl w.heap.size w) (.cells #[.slice s.A0 s.ss.length s.c0,.slice s.A1 s.cs.length s.c1,.slice s.A2 s.ps.length s.c2] 26))
 unfold sgV
 generalize h0:decide ((300:Int)<(s.ss.length:Int))=b0
 generalize h1:decide ((300:Int)<(s.cs.length:Int))=b1
 generalize h2:decide ((300:Int)<(s.ps.length:Int))=b2
 have e0:=h0
 have e1:=h1
 have e2:=h2
 clear h0 h1 h2
 cases b0<;>cases b1<;>cases b2
 all_goals (
  go_enter Tryz.func14,Tryz.ntmps14
  go_wp2
  go_ret
  exact ⟨_,rfl,trivial,HB.out⟩)
section
variable {ops:Array Oper} {Q:Exit→Act→World→Prop} {i:Nat} {o:Oper} {J:Act→World→Prop} {a:Act} {w:World}
theorem op_join {op:Int} {l:List S37} {k:Tmp} {v:Value} {ts:Array TypeId} (hi:ops[i]? =some o) (hg:o.guard=none) (ho:o.op= .call {callee:= .value (.func 33),args:= #[.const (.int .i64 op),.tmp k],argTypes:=ts}) (ha:a.tmps[k]?.getD undef=v) (hv:IsFs w l v) (h:∀u w',IsFm w' ⟨op,⟨#[]⟩,[],0,0,l⟩ u→Below w.heap.size w w' →J (a.put o.dst u) w'):wpOp Tryz.prog ops Q i J a w:=by
 refine op_call (f:=33) (args:= #[.int .i64 op,v]) hi (wanted_none hg) ?_ ((join_calls op l v w hv).mono ?_)
 ·have he:=enters_of Tryz.func33 (by kernel_rfl) rfl #[.int .i64 op,v] w
  unfold execOp
  rw[ho]
  go_simp
 ·rintro e w' ⟨u,rfl,hu,hB⟩
  exact ⟨u,rfl,h u w' hu hB⟩
theorem op_cmpF {F:S37} {k k2:Tmp} {v v2:Value} {ts:Array TypeId} (hi:ops[i]? =some o) (hg:o.guard=none) (ho:o.op= .call {callee:= .value (.func 34),args:= #[.tmp k,.tmp k2],argTypes:=ts}) (ha:a.tmps[k]?.getD undef=v) (ha2:a.tmps[k2]?.getD undef=v2) (hv:IsFm w F v) (hv2:IsFm w F v2) (h:∀w',Below w.heap.size w w' →J (a.put o.dst (.int .i64 0)) w'):wpOp Tryz.prog ops Q i J a w:=by
 obtain ⟨A2,c2,A5,c5,rfl,hF⟩:=hv
 obtain ⟨B2,d2,B5,d5,rfl,hG⟩:=hv2
 refine op_call (f:=34) (args:= #[.agg #[.int .i64 F.f0,.string F.f1,.slice A2 F.f2.length c2,.int .i64 F.f3,.int .i64 F.f4,.slice A5 F.f5.length c5],.agg #[.int .i64 F.f0,.string F.f1,.slice B2 F.f2.length d2,.int .i64 F.f3,.int .i64 F.f4,.slice B5 F.f5.length d5]]) hi (wanted_none hg) ?_ ((cmpF_calls F w A2 c2 A5 c5 B2 d2 B5 d5 hF hG).mono ?_)
 ·have he:=enters_of Tryz.func34 (by kernel_rfl) rfl #[.agg #[.int .i64 F.f0,.string F.f1,.slice A2 F.f2.length c2,.int .i64 F.f3,.int .i64 F.f4,.slice A5 F.f5.length c5],.agg #[.int .i64 F.f0,.string F.f1,.slice B2 F.f2.length d2,.int .i64 F.f3,.int .i64 F.f4,.slice B5 F.f5.length d5]] w
  unfold execOp
  rw[ho]
  go_simp
 ·rintro e w' ⟨rfl,hB⟩
  exact ⟨_,rfl,h w' hB⟩
theorem op_box30v {t:S30} {k:Tmp} {v:Value} (hi:ops[i]? =some o) (hg:o.guard=none) (ho:o.op= .box 30 (.tmp k)) (ha:a.tmps[k]?.getD undef=v) (hv:IsT w t v) (h:∀w',AtT w' w.heap.size t→Below w.heap.size w w' →w'.heap.size=w.heap.size+1→J (a.put o.dst (.pointer (some ⟨w.heap.size,0,none⟩))) w'):wpOp Tryz.prog ops Q i J a w:=by
 obtain ⟨A1,c1,A2,c2,rfl,hT⟩:=hv
 exact op_box30 (t:=t) hi hg ho ha fun w' h1 h2 h3=>h w' ⟨A1,c1,A2,c2,h1,hT.below h2⟩ h2 h3
end
theorem wants_y {ops:Array Oper} {o:Oper} {tmps:Array Value} {j:Nat} {want:Bool} (hg:o.guard=some (j,want)) (h:((ops[j]?).bind (·.dst)).bind (tmps[·]?)=some (.bool want)):Region.wanted o (yielded ops tmps)=true:=(wanted_if hg h).trans (by cases want<;>rfl)
theorem wants_n {ops:Array Oper} {o:Oper} {tmps:Array Value} {j:Nat} {want:Bool} (hg:o.guard=some (j,want)) (h:((ops[j]?).bind (·.dst)).bind (tmps[·]?)=some (.bool (!want))):Region.wanted o (yielded ops tmps)=false:=(wanted_if hg h).trans (by cases want<;>rfl)
theorem wp_nil {P:Program} {ops:Array Oper} {Q:Exit→Act→World→Prop} {a:Act} {w:World} (h:Q .normal a w):wpList P ops Q [] a w:=h
end
theorem ch_ok {A B:Bool} {r:Option S70} {m:S70} (h:chP A B r= .ok m):A=true∧B=true∧r=some m∧m.f3=false∧m.f1≤200∧m.f2≤32:=by
 unfold chP at h
 cases A<;>cases B<;>simp at h
 cases r with
 |none=>simp at h
 |some k =>
  simp only at h
  split at h
  ·cases h
  ·rename_i h3
   split at h
   ·cases h
   ·rename_i h4
    injection h with h
    subst h
    exact ⟨rfl,rfl,rfl,by simpa using h3,by omega,by omega⟩
def opF (op:Int) (l:List S37):S37:=⟨op,⟨#[]⟩,[],0,0,l⟩
section
attribute [local go_sem] Oper.semAt_some
theorem h59_:Kd.Heap k59:=Kd.heap_iso _ (Kd.heap_pair (Kd.heap_int .i64) (Kd.heap_pair (Kd.heap_int .i64) Kd.heap_string))
theorem h37_:Kd.Heap k37:=Kd.heap_fix (fun _ h_=>Kd.heap_iso _ (Kd.heap_pair (Kd.heap_int .i64) (Kd.heap_pair Kd.heap_string (Kd.heap_pair (Kd.heap_slice 59 h59_) (Kd.heap_pair (Kd.heap_int .i64) (Kd.heap_pair (Kd.heap_int .i64) (Kd.heap_slice 37 h_)))))))
section
variable {ops:Array Oper} {Q:Exit→Act→World→Prop} {i:Nat} {o:Oper} {J:Act→World→Prop} {a:Act} {w:World}
theorem op_gtcb {k:Tmp} {n m:Int} {b:Bool} (hi:ops[i]? =some o) (hg:o.guard=none) (ho:o.op= .binOp .gtr 3 (.tmp k) (.const (.int .i64 m)) 3) (hb:decide (m<n)=b) (ha:a.tmps[k]?.getD undef= .int .i64 n) (h:J (a.put o.dst (.bool b)) w):wpOp Tryz.prog ops Q i J a w:=by
 subst hb
 refine op_value hi (wanted_none hg) (w' :=w) ?_ h
 unfold execOp
 rw[ho]
 go_simp
theorem op_st37v {F:S37} {k k2:Tmp} {g:Nat} {v:Value} {w0:World} (hi:ops[i]? =some o) (hg:o.guard=none) (hd:o.dst=none) (ho:o.op= .store 37 (.tmp k) (.tmp k2)) (ha:a.tmps[k]?.getD undef= .pointer (some ⟨g,0,none⟩)) (ha2:a.tmps[k2]?.getD undef=v) (hv:IsFm w0 F v) (hB:Below w0.heap.size w0 w) (hge:w0.heap.size≤g) (hz:w.heap[g]? =some zero37) (h:∀w',AtF w' g F→Below w0.heap.size w0 w' →J a w'):wpOp Tryz.prog ops Q i J a w:=by
 obtain ⟨A2,c2,A5,c5,rfl,hF⟩:=hv
 refine op_store37 (r:= .ok ⟨F,0,0,false⟩) hi hg hd ho ha ha2 hz ⟨A2,c2,A5,c5,rfl,hF.l2,Kd.F_mono (Kd.F_step (Kd.C_F h59_ hF.a) (fun k hk hlt=>hB.block k hlt)) (fun k hk=>by omega),hF.l5,Kd.F_mono (Kd.F_step (Kd.C_F h37_ hF.k) (fun k hk hlt=>hB.block k hlt)) (fun k hk=>by omega)⟩ fun w' h1 h2 _=>h w' h1 (hB.trans (h2 _ hge))
end
end
section
attribute [local go_sem] Oper.semAt_some
section
attribute [local irreducible] wpList
set_option maxHeartbeats 4000000 in
set_option maxRecDepth 100000 in
theorem large_v {t:S30} {v:Value} {w:World} (n:Int) (h0:0≤n) (h1:n≤1000) (hm:nodes t≤2000000) (h:IsT w t v):Calls Tryz.prog 15 #[v,.int .i64 n] w fun e w' =>∃b,e= .returned (.bool b)∧(b=false→(nodes t:Int)≤n)∧Below w.heap.size w w' :=by
 obtain ⟨A1,c1,A2,c2,rfl,hT⟩:=h
 exact large_calls t n h0 h1 hm w A1 c1 A2 c2 hT
end
end
section
attribute [local go_sem] Oper.semAt_some
section
attribute [local irreducible] wpList
theorem sm_2 {f:ByteArray} {p q:S30} (hf:f.size≤2000000) (hp:Sm p) (hq:Sm q):Sm ⟨f,[],[p,q]⟩:=(Sm.eq _).2 ⟨hf,Nat.zero_le _,by show 2≤2000000;omega,by simp only[SmL];exact ⟨hp,hq,trivial⟩⟩
end
end
section
attribute [local go_sem] Oper.semAt_some
theorem nou_parts {s:Sg} {t:S30} {m:S70} (h:nouP s t= .ok m):sigOk s.ss s.cs s.ps=true∧nodes t≤60∧formedP structL t cCN=true∧resP t=true∧nounQ s t=some m:=by
 unfold nouP at h
 obtain ⟨hA,hB,hr,_,_,_⟩:=ch_ok h
 simp only[Bool.and_eq_true,decide_eq_true_eq]at hA
 exact ⟨hA.1.1,hA.1.2,hA.2,hB,hr⟩
theorem nouP_err {s:Sg} {t:S30} {c:Int} (h:nouP s t= .error c):(c != 0)=true:=by
 unfold nouP at h
 generalize (sigOk s.ss s.cs s.ps && decide (nodes t≤60) && formedP structL t cCN)=A at h
 generalize resP t=B at h
 generalize nounQ s t=r at h
 unfold chP at h
 cases A with
 |false=>cases h;rfl
 |true =>
  cases B with
  |false=>cases h;rfl
  |true =>
   rw[if_neg (by decide),if_neg (by decide)]at h
   cases r with
   |none=>cases h;rfl
   |some m =>
    simp only at h
    split at h
    ·cases h;rfl
    ·split at h
     ·cases h;rfl
     ·cases h
def ySort (s:Sg) (t:S30):ByteArray:=match nouP s t with
 |.ok _=>(sortP s.ps 60 t).getD ⟨#[]⟩
 |.error _=>⟨#[]⟩
def tAdj (x:ByteArray) (cn:S30):S30:=⟨nAdj,[],[⟨x,[],[]⟩,cn]⟩
def tWho (cn vp:S30):S30:=⟨nWho,[],[cn,vp]⟩
def adjF (x:ByteArray):S37:=⟨3,x,[⟨1,0,⟨#[]⟩⟩],0,0,[]⟩
theorem nodes_adj (x:ByteArray) (cn:S30):nodes (tAdj x cn)=1+(nodes cn+0)+1:=rfl
theorem nodes_who (cn vp:S30):nodes (tWho cn vp)=nodes cn+(nodes vp+0)+1:=rfl
theorem adj_sort {s:Sg} {x:ByteArray} {cn:S30} {m m' :S70} (h:nouP s cn= .ok m) (h' :nouP s (tAdj x cn)= .ok m'):ySort s (tAdj x cn)=ySort s cn∧m'.f0=opF 5 [adjF x,m.f0]:=by
 obtain ⟨a1,a2,a3,a4,a5⟩:=nou_parts h
 obtain ⟨b1,b2,b3,b4,b5⟩:=nou_parts h'
 rw[nodes_adj]at b2
 have es:sortP s.ps 60 (tAdj x cn)=sortP s.ps 60 cn:=by
  rw[sortP,if_neg (by rw[isF_f (n:=nAdj) rfl (by decide +kernel)];decide),if_pos (isF_t (n:=nAdj) rfl (by decide +kernel))]
  exact sort_fuel s.ps 59 60 cn a3 (by omega) a2
 refine ⟨by unfold ySort;rw[h,h',es],?_⟩
 unfold nounQ at a5 b5
 obtain ⟨y,hy,a5⟩:=bind_some' a5
 obtain ⟨f,hf,a5⟩:=bind_some' a5
 rw[es,hy]at b5
 have b5:((nounP s 60 (tAdj x cn)).bind fun f=>f 1 (nounVar y))=some m' :=b5
 obtain ⟨g,hg,b5⟩:=bind_some' b5
 rw[nounP,if_neg (by rw[isF_f (n:=nAdj) rfl (by decide +kernel)];decide),if_pos (isF_t (n:=nAdj) rfl (by decide +kernel))]at hg
 obtain ⟨p,hp,hg⟩:=bind_some' hg
 have hp:predP s.ps x=some p:=hp
 have hg:(nounP s 59 cn).map (fun c=>fun depth y=>(atomP s.ps x depth [y]).bind fun m1=>(c depth y).bind fun m2=>some (bothP m1 m2))=some g:=hg
 rw[(mean_fuel s 59 60).1 cn a3 a4 (by omega) a2,hf]at hg
 injection hg with hg
 subst hg
 have b5:((atomP s.ps x 1 [nounVar y]).bind fun m1=>(f 1 (nounVar y)).bind fun m2=>some (bothP m1 m2))=some m' :=b5
 obtain ⟨m1,hm1,b5⟩:=bind_some' b5
 rw[a5]at b5
 injection b5 with b5
 subst b5
 unfold atomP at hm1
 rw[hp]at hm1
 injection hm1 with hm1
 subst hm1
 have hx:p.f0=x:=by
  unfold predP at hp
  have he:=List.find?_some hp
  exact toList_eq (eq_of_beq he)
 show (⟨5,⟨#[]⟩,[],0,0,[⟨3,p.f0,[refP (nounVar y) 1],0,0,[]⟩,m.f0]⟩:S37)=_
 rw[hx,show refP (nounVar y) 1=⟨1,0,⟨#[]⟩⟩from by
  unfold refP
  rw[if_pos (show (nounVar y).kind=1 from rfl)]
  show (⟨1,wrap64 (wrap64 (1-1)-0),⟨#[]⟩⟩:S59)=_
  rw[show wrap64 (wrap64 (1-1)-0)=0 from by decide +kernel]]
 rfl
theorem who_sort {s:Sg} {cn vp:S30} {m m' :S70} (h:nouP s cn= .ok m) (h' :nouP s (tWho cn vp)= .ok m'):ySort s (tWho cn vp)=ySort s cn∧∃k,m'.f0=opF 5 [m.f0,k]:=by
 obtain ⟨a1,a2,a3,a4,a5⟩:=nou_parts h
 obtain ⟨b1,b2,b3,b4,b5⟩:=nou_parts h'
 rw[nodes_who]at b2
 have es:sortP s.ps 60 (tWho cn vp)=sortP s.ps 60 cn:=by
  rw[sortP,if_neg (by rw[isF_f (n:=nWho) rfl (by decide +kernel)];decide),if_neg (by rw[isF_f (n:=nWho) rfl (by decide +kernel)];decide)]
  exact sort_fuel s.ps 59 60 cn a3 (by omega) a2
 refine ⟨by unfold ySort;rw[h,h',es],?_⟩
 unfold nounQ at a5 b5
 obtain ⟨y,hy,a5⟩:=bind_some' a5
 obtain ⟨f,hf,a5⟩:=bind_some' a5
 rw[es,hy]at b5
 have b5:((nounP s 60 (tWho cn vp)).bind fun f=>f 1 (nounVar y))=some m' :=b5
 obtain ⟨g,hg,b5⟩:=bind_some' b5
 rw[nounP,if_neg (by rw[isF_f (n:=nWho) rfl (by decide +kernel)];decide),if_neg (by rw[isF_f (n:=nWho) rfl (by decide +kernel)];decide)]at hg
 have hg:((nounP s 59 cn).bind fun c=>(verbP s 59 vp).map fun v=>joinP c v)=some g:=hg
 rw[(mean_fuel s 59 60).1 cn a3 a4 (by omega) a2,hf]at hg
 obtain ⟨v,hv,hg⟩:=map_some' (show (verbP s 59 vp).map (fun v=>joinP f v)=some g from hg)
 subst hg
 have b5:((f 1 (nounVar y)).bind fun m1=>(v 1 (nounVar y)).bind fun m2=>some (bothP m1 m2))=some m' :=b5
 rw[a5]at b5
 obtain ⟨m2,_,b5⟩:=bind_some' (show ((v 1 (nounVar y)).bind fun m2=>some (bothP m m2))=some m' from b5)
 injection b5 with b5
 subst b5
 exact ⟨m2.f0,rfl⟩
section
variable {ops:Array Oper} {Q:Exit→Act→World→Prop} {i:Nat} {o:Oper} {J:Act→World→Prop} {a:Act} {w:World}
theorem op_nounC {s:Sg} {t:S30} {k k2:Tmp} {v:Value} {c:Int} {y:ByteArray} (hi:ops[i]? =some o) (hg:o.guard=none) (ho:o.op= .call {callee:= .value (.func 16),args:= #[.tmp k,.tmp k2],argTypes:= #[26,30]}) (ha:a.tmps[k]?.getD undef=sgV s) (ha2:a.tmps[k2]?.getD undef=v) (hc:codeOf (nouP s t)=c) (hy:ySort s t=y) (hv:IsT w t v) (hC:s.C w) (hsm:Sm t) (hn:nodes t≤500) (h:∀u w',IsF w' (fun k=>w.heap.size≤k) (nouP s t) u→Below w.heap.size w w' →J (a.put o.dst (.tuple #[u,.string y,.int .i64 c])) w'):wpOp Tryz.prog ops Q i J a w:=by
 subst hc
 subst hy
 obtain ⟨A1,c1,A2,c2,rfl,hV⟩:=hv
 refine op_call (f:=16) (args:= #[sgV s,.agg #[.string t.f0,.slice A1 t.f1.length c1,.slice A2 t.f2.length c2]]) hi (wanted_none hg) ?_ ((noun_calls s t w A1 c1 A2 c2 hC hV hsm hn).mono ?_)
 ·have he:=enters_of Tryz.func16 (by kernel_rfl) rfl #[sgV s,.agg #[.string t.f0,.slice A1 t.f1.length c1,.slice A2 t.f2.length c2]] w
  unfold execOp
  rw[ho]
  go_simp
 ·rintro e w' ⟨hB,hr⟩
  unfold ySort at h
  revert h
  cases ho:nouP s t with
  |error c =>
   rw[ho]at hr
   intro h
   exact ⟨_,hr,h _ _ rfl hB⟩
  |ok m =>
   rw[ho]at hr
   obtain ⟨v,y,hy,he,hf⟩:=hr
   rw[hy]
   intro h
   exact ⟨_,he,h _ _ hf hB⟩
theorem op_store37y {r:Except Int S70} {k k2:Tmp} {g:Nat} {v:Value} {y0 y1 y2 y3 y4 y5:Value} (hi:ops[i]? =some o) (hg:o.guard=none) (hd:o.dst=none) (ho:o.op= .store 37 (.tmp k) (.tmp k2)) (ha:a.tmps[k]?.getD undef= .pointer (some ⟨g,0,none⟩)) (ha2:a.tmps[k2]?.getD undef=v) (hz:w.heap[g]? =some (.cells #[y0,y1,y2,y3,y4,y5] 37 (0,0))) (hF:IsF w (fun k=>k≠g) r v) (h:∀w',At37 w' g r→(∀B,B≤g→Below B w w')→(∀k,k≠g→k<w.heap.size→w'.heap[k]? =w.heap[k]?)→J a w'):wpOp Tryz.prog ops Q i J a w:=by
 have f0:=blk_frozen hz 0
 have f1:=blk_frozen hz 1
 have f2:=blk_frozen hz 2
 have f3:=blk_frozen hz 3
 have f4:=blk_frozen hz 4
 have f5:=blk_frozen hz 5
 have z0:=blk_cell hz 0
 have z1:=blk_cell hz 1
 have z2:=blk_cell hz 2
 have z3:=blk_cell hz 3
 have z4:=blk_cell hz 4
 have z5:=blk_cell hz 5
 simp at z0 z1 z2 z3 z4 z5
 have hput:a.put none undef=a:=rfl
 have hb:∀(a0 a1 a2 a3 a4 a5:Value) (B:Nat),B≤g→Below B w (set6 w g a0 a1 a2 a3 a4 a5):=fun a0 a1 a2 a3 a4 a5 B hB=>(kp_set6 a0 a1 a2 a3 a4 a5).toBelow (by have:=blk_lt hz;omega) (fun k hk=>by omega)
 have hfar:∀(a0 a1 a2 a3 a4 a5:Value) (k:Nat),k≠g→k<w.heap.size→(set6 w g a0 a1 a2 a3 a4 a5).heap[k]? =w.heap[k]? :=fun a0 a1 a2 a3 a4 a5 k hk hlt=>(kp_set6 a0 a1 a2 a3 a4 a5).block k hlt hk
 cases r with
 |error c =>
  obtain rfl:v=zeroF:=hF
  have hh:=h (set6 w g (.int .i64 0) (.string ⟨#[]⟩) (.slice none 0 0) (.int .i64 0) (.int .i64 0) (.slice none 0 0)) (fin6 hz _ _ _ _ _ _) (hb _ _ _ _ _ _) (hfar _ _ _ _ _ _)
  refine wpOp_step hi (fun K hK=> ?_)
  have hk:=hK _ _ hh
  rw[if_pos (wanted_none hg)]
  unfold Oper.wp execOp
  rw[ho]
  unfold zeroF at ha2
  go_simp
  unfold set6 at hk
  exact hk
 |ok m =>
  obtain ⟨A2,c2,A5,c5,rfl,l2,g2,l5,g5⟩:=hF
  have hF' :=fun k (hk:k≠g) (hlt:k<w.heap.size)=>hfar (.int .i64 m.f0.f0) (.string m.f0.f1) (.slice A2 m.f0.f2.length c2) (.int .i64 m.f0.f3) (.int .i64 m.f0.f4) (.slice A5 m.f0.f5.length c5) k hk hlt
  have hh:=h (set6 w g (.int .i64 m.f0.f0) (.string m.f0.f1) (.slice A2 m.f0.f2.length c2) (.int .i64 m.f0.f3) (.int .i64 m.f0.f4) (.slice A5 m.f0.f5.length c5)) ⟨A2,c2,A5,c5,fin6 hz _ _ _ _ _ _,l2,Kd.F_now (Kd.F_step g2 hF'),l5,Kd.F_now (Kd.F_step g5 hF')⟩ (hb _ _ _ _ _ _) (hfar _ _ _ _ _ _)
  refine wpOp_step hi (fun K hK=> ?_)
  have hk:=hK _ _ hh
  rw[if_pos (wanted_none hg)]
  unfold Oper.wp execOp
  rw[ho]
  go_simp
  unfold set6 at hk
  exact hk
theorem op_bd59 {n:Int} (hi:ops[i]? =some o) (hg:o.guard=none) (ho:o.op= .build 59 #[(0,.const (.int .i64 n))]) (h:J (a.put o.dst (.agg #[.int .i64 n,.int .i64 0,.string ⟨#[]⟩])) w):wpOp Tryz.prog ops Q i J a w:=by
 refine op_value hi (wanted_none hg) (w' :=w) ?_ h
 unfold execOp
 rw[ho]
 go_simp
def IsRs (w:World) (l:List S59) (v:Value):Prop:=∃A c,v= .slice A l.length c∧l.length≤c∧k59.C w A l.length l
theorem op_rs1 {k:Tmp} {r:S59} (hi:ops[i]? =some o) (hg:o.guard=none) (ho:o.op= .buildSlice 34 1 #[(0,.tmp k)]) (ha:a.tmps[k]?.getD undef= .agg #[.int .i64 r.f0,.int .i64 r.f1,.string r.f2]) (h:∀u w',IsRs w' [r] u→Below w.heap.size w w' →J (a.put o.dst u) w'):wpOp Tryz.prog ops Q i J a w:=by
 have hB:=below_alloc (Below.refl w.heap.size w) (.cells #[.int .i64 r.f0,.int .i64 r.f1,.string r.f2] 59)
 have hR:Reps (fun x c=>k59.K (w.alloc (.cells #[.int .i64 r.f0,.int .i64 r.f1,.string r.f2] 59)) x c) 3 [r] [.int .i64 r.f0,.int .i64 r.f1,.string r.f2]:=by
  have h:=(Reps.none (fun (x:S59) c=>k59.K (w.alloc (.cells #[.int .i64 r.f0,.int .i64 r.f1,.string r.f2] 59)) x c) 3).snoc (k59_mk _ r) rfl
  simpa using h
 obtain ⟨A,c,he,hC⟩:=own_reads_row (block_own (w:=w.alloc (.cells #[.int .i64 r.f0,.int .i64 r.f1,.string r.f2] 59)) (cs:=[.int .i64 r.f0,.int .i64 r.f1,.string r.f2]) (size:=3) (n:=1) (heap_alloc_new w _) (by simp) (by omega)) hR rfl
 injection he with he1 he2 he3
 subst he1
 subst he3
 clear he2
 refine op_value hi (wanted_none hg) (v:= .slice (some ⟨w.heap.size,0,none⟩) 1 1) ?_ (h _ _ ⟨_,1,rfl,Nat.le_refl _,hC⟩ hB)
 unfold execOp
 rw[ho]
 go_simp
theorem op_bd3 {x:ByteArray} {l:List S59} {k k2:Tmp} {v:Value} (hi:ops[i]? =some o) (hg:o.guard=none) (ho:o.op= .build 37 #[(0,.const (.int .i64 3)),(1,.tmp k),(2,.tmp k2)]) (ha:a.tmps[k]?.getD undef= .string x) (ha2:a.tmps[k2]?.getD undef=v) (hv:IsRs w l v) (h:∀u,IsFm w ⟨3,x,l,0,0,[]⟩ u→J (a.put o.dst u) w):wpOp Tryz.prog ops Q i J a w:=by
 obtain ⟨A,c,rfl,hl,hC⟩:=hv
 refine op_value hi (wanted_none hg) (w' :=w) ?_ (h _ ⟨A,c,none,0,rfl,hl,hC,Nat.le_refl _,Kd.C_nil _ _⟩)
 unfold execOp
 rw[ho]
 go_simp
theorem op_neS {k k2:Tmp} {x:ByteArray} (hi:ops[i]? =some o) (hg:o.guard=none) (ho:o.op= .binOp .neq 9 (.tmp k) (.tmp k2) 9) (ha:a.tmps[k]?.getD undef= .string x) (ha2:a.tmps[k2]?.getD undef= .string x) (h:J (a.put o.dst (.bool false)) w):wpOp Tryz.prog ops Q i J a w:=by
 have e:=beq_self_eq_true x.toList
 refine op_value hi (wanted_none hg) (w' :=w) ?_ h
 unfold execOp
 rw[ho]
 go_simp
theorem op_eqSS {k k2:Tmp} {x:ByteArray} (hi:ops[i]? =some o) (hg:o.guard=none) (ho:o.op= .binOp .eql 9 (.tmp k) (.tmp k2) 9) (ha:a.tmps[k]?.getD undef= .string x) (ha2:a.tmps[k2]?.getD undef= .string x) (h:J (a.put o.dst (.bool true)) w):wpOp Tryz.prog ops Q i J a w:=by
 have e:=beq_self_eq_true x.toList
 refine op_value hi (wanted_none hg) (w' :=w) ?_ h
 unfold execOp
 rw[ho]
 go_simp
theorem op_ne3 {k:Tmp} {n m:Int} {b:Bool} (hi:ops[i]? =some o) (hg:o.guard=none) (ho:o.op= .binOp .neq 3 (.tmp k) (.const (.int .i64 m)) 3) (hb:(n != m)=b) (ha:a.tmps[k]?.getD undef= .int .i64 n) (h:J (a.put o.dst (.bool b)) w):wpOp Tryz.prog ops Q i J a w:=by
 subst hb
 refine op_value hi (wanted_none hg) (w' :=w) ?_ h
 unfold execOp
 rw[ho]
 go_simp
theorem op_len35 {k:Tmp} {A:Option Addr} {n c:Nat} (hi:ops[i]? =some o) (hg:o.guard=none) (ho:o.op= .call {callee:= .builtin .len,args:= #[.tmp k],argTypes:= #[35]}) (ha:a.tmps[k]?.getD undef= .slice A n c) (h:J (a.put o.dst (.int .i64 n)) w):wpOp Tryz.prog ops Q i J a w:=by
 refine op_value hi (wanted_none hg) (w' :=w) ?_ h
 unfold execOp
 rw[ho]
 go_simp
theorem op_ix35 {k:Tmp} {ad:Addr} {n c:Nat} {j:Int} (hi:ops[i]? =some o) (hg:o.guard=none) (ho:o.op= .indexAddr 35 (.tmp k) (.const (.int .i64 j))) (h0:(0≤j)=True) (h1:(j<n)=True) (ha:a.tmps[k]?.getD undef= .slice (some ad) n c) (h:J (a.put o.dst (.pointer (some (ad.add (j.toNat*6))))) w):wpOp Tryz.prog ops Q i J a w:=by
 refine op_value hi (wanted_none hg) (w' :=w) ?_ h
 unfold execOp
 rw[ho]
 go_simp
theorem op_ldF0 {F:S37} {k:Tmp} {ad:Addr} {A2 A5:Option Addr} {c2 c5:Nat} (hi:ops[i]? =some o) (hg:o.guard=none) (ho:o.op= .load 37 (.tmp k)) (ha:a.tmps[k]?.getD undef= .pointer (some ad)) (x0:w.cell? ad=some (.int .i64 F.f0)) (x1:w.cell? ⟨ad.block,ad.off+1,none⟩=some (.string F.f1)) (x2:w.cell? ⟨ad.block,ad.off+2,none⟩=some (.slice A2 F.f2.length c2)) (x3:w.cell? ⟨ad.block,ad.off+3,none⟩=some (.int .i64 F.f3)) (x4:w.cell? ⟨ad.block,ad.off+4,none⟩=some (.int .i64 F.f4)) (x5:w.cell? ⟨ad.block,ad.off+5,none⟩=some (.slice A5 F.f5.length c5)) (hF:FmC w F A2 c2 A5 c5) (h:∀u,IsFm w F u→J (a.put o.dst u) w):wpOp Tryz.prog ops Q i J a w:=by
 have h:=h _ ⟨A2,c2,A5,c5,rfl,hF⟩
 refine op_value hi (wanted_none hg) (w' :=w) ?_ h
 unfold execOp
 rw[ho]
 go_simp
end
theorem region_kp {ops:Array Oper} {Q:Exit→Act→World→Prop} {id:Nat} (L n:Nat) (lt:Nat→Bool) (p q:Nat) (ks:List Kn) (pf:Nat→Value→Prop) (KS:List Nat) (f:Nat→Value) (W:World) (D:Value→World→Prop) (hL:L<ops.size) (hfit:fitB ops n KS=true)
  (hlow:(List.range ops.size).all (fun i=>((ops[i]?).map fun o=>o.after.all fun e=> !Region.binds .any e || decide (e.on<i)).getD true)=true)
  (hto:(List.range L).all (fun i=>lt i || (List.range (L+1)).any fun j=>decide (i<j) && Dep .any ops i j && !(lt j))=true)
  (hbe:(List.range ops.size).all (fun j=>decide (j≤L) || Dep .any ops L j)=true) (hll:lt L=false) (hpq:p<L∧q<L∧p≠q∧lt p=false∧lt q=false)
  (hpf:∀i v w,(ks.getD i .top).In v w→pf i v) (hst:StepsP ops Q (fun x=>frN n (sl x f KS)) W.drew ks ops.toList 0 L)
  (mid:∀o x w J,ops[L]? =some o→Below W.drew.heap.size W.drew w→(∀i,i<L→lt i=false→(ks.getD i .top).In (x i) w)→(∀v w',D (x q) w' →J ((frN n (sl x f KS)).put o.dst v) w')→wpOp Tryz.prog ops Q L J (frN n (sl x f KS)) w)
  (step2:∀i o x w J,(lt i=true∨L<i)→ops[i]? =some o→(∀j,waits o j=true→j≠L→pf j (x j))→(∀v,pf i v→J ((frN n (sl x f KS)).put o.dst v) w)→wpOp Tryz.prog ops Q i J (frN n (sl x f KS)) w)
  (fin:∀x w,(∀i,i<ops.size→i≠L→pf i (x i))→D (x q) w→Q .normal (frN n (sl x f KS)) w):Code.wp Tryz.prog (.region id ops true) Q (frN n f) W:=by
 rw[frN_sl n f KS]
 refine wp_region_any (by kernel_rfl) (region_two L hL (fun x=>frN n (sl x f KS)) (fun i=>i) lt (fun i v _ w=>(ks.getD i .top).In v w) (fun i v _=>pf i v) p q (fun _ _ _=>True) D W.drew hlow hto hbe (by simp) hll (fun i o x v ho=>fit_put hfit f i o x v ho) (fun i v u w h=>hpf i v w h) (fun i v u w w' h hB=>(ks.getD i .top).st v w w' h hB) (fun _ _ _ _ h _=>h) (fun i o x w J dn hi ho hB hd _ h=> ?_) hpq (fun o x w J ho hB h _ hJ=>mid o x w J ho hB h hJ) (fun i o x w J hl ho hd h=>step2 i o x w J hl ho (fun j hj hn=>deps_waits (C:=fun j=>j≠L→pf j (x j)) rfl hd j hj hn) h) (fun x w hx hD=>fin x w (fun i hi hn=>hx i hi hn) hD) _)
 have h1:=stepsP_at ops.toList 0 L hst i o hi (by simpa using ho)
 rw[Nat.zero_add]at h1
 exact h1 x w J hB (deps_waits rfl hd) (fun v w' hv hb=>h v w' hv (fun _ _=>trivial) (fun _ _=>trivial) hb) ho
end
end Go.Proofs.YtcfjomnihhdpaaaGreatDoor.A
