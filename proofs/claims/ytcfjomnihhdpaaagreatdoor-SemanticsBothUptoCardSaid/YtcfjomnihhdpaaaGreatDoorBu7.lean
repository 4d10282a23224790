/-
  A part of the proof: A2, R29, R30, R31, R32, R33, R36, Q5.
-/
import Derived.Test.YtcfjomnihhdpaaaGreatDoorBu2
import Derived.Test.YtcfjomnihhdpaaaGreatDoorBu6
namespace Go.Proofs.YtcfjomnihhdpaaaGreatDoor.A
open Go.RowKit Go.Proofs.YtcfjomnihhdpaaaGreatDoorW.PrintWords Go.Proofs.YtcfjomnihhdpaaaGreatDoorW.PrintLast Go.Proofs.YtcfjomnihhdpaaaGreatDoorW.PrintMore
section
attribute [local go_sem] max2_int min2_int max_two min_two
set_option linter.unusedVariables false
set_option linter.unusedSimpArgs false
def slices_Index_string_string.l0:Nat→List ByteArray→ByteArray→Int→Int→Option (Int)
 |0,_,_,_,_=>none
 |k+1,x0,x1,x7,x8=>if x8<x7 then (if 0≤x8 then (if x8<(x0.length:Int)then (if x1.toList=(rdOf ByteArray.empty x0 x8).toList then (some x8)else (slices_Index_string_string.l0 k x0 x1 x7 (wrap64 (x8+1))))else (none))else (none))else (some (-1))
def slices_Index_string_string.f (k:Nat) (l0:List ByteArray) (a1:ByteArray):Option (Int):=slices_Index_string_string.l0 k l0 a1 (l0.length:Int) 0
set_option maxHeartbeats 8000000 in
set_option maxRecDepth 100000 in
theorem slices_Index_string_string.calls (k:Nat) (A0:Option Addr) (c0:Nat) (l0:List ByteArray) (a1:ByteArray) (r:Int) (w:World) (hr0:Kd.C Kd.string w A0 l0.length l0) (hc0:l0.length≤c0) (h:slices_Index_string_string.f k l0 a1=some r) :
  Calls Tryz.prog 154 #[.slice A0 l0.length c0,.string a1] w fun e w' =>e= .returned (.int .i64 r)∧Drawn0 w w' :=by
 have HR0:=Aside0.mk hr0
 have HC0:=Aside0.mk hc0
 clear hr0 hc0
 have H:(slices_Index_string_string.l0 k l0 a1 (l0.length:Int) 0)=some r:=h
 clear h
 have H' :=Aside0.mk H
 clear H
 go_enter Tryz.func154,Tryz.ntmps154
 go_wp2
 go_loopg [8] k (fun kq v8 w' =>∃(x8_1:Int),v8= .int .i64 x8_1∧Aside0 (slices_Index_string_string.l0 kq l0 a1 (l0.length:Int) x8_1=some r)∧Aside0 (kq≤k)∧Drawn0 w w')
 case atStart=>exact ⟨(0),(by first | rfl | (simp;done) | (simp[*];done)),H',⟨Nat.le_refl _⟩,by repeat (first | exact Drawn0.refl _ | apply Drawn0.step)⟩
 case round =>
  clear H'
  try clear c1
  try clear p2
  obtain ⟨x8_1,rfl,HA,HK1,⟨m1,rfl⟩⟩:=hrel
  cases gk with
  |zero=>exact absurd HA.out (by simp[slices_Index_string_string.l0])
  |succ k1 =>
   have H:=HA.out
   clear HA
   simp only[slices_Index_string_string.l0]at H
   by_cases c3:x8_1<(l0.length:Int)
   ·rw[if_pos c3]at H
    have c3b0:decide (x8_1<(l0.length:Int))=true:=decide_eq_true c3
    clear c3
    by_cases c4:0≤x8_1
    ·rw[if_pos c4]at H
     have c4b0:decide (0≤x8_1)=true:=decide_eq_true c4
     clear c4
     by_cases c5:x8_1<(l0.length:Int)
     ·rw[if_pos c5]at H
      have c5b0:decide (x8_1<(l0.length:Int))=true:=decide_eq_true c5
      clear c5
      by_cases c6:a1.toList=(rdOf ByteArray.empty l0 x8_1).toList
      ·rw[if_pos c6]at H
       have c6b0:(a1.toList == (rdOf ByteArray.empty l0 x8_1).toList)=true:=beq_iff_eq.mpr c6
       have c6b1:(a1.toList != (rdOf ByteArray.empty l0 x8_1).toList)=false:=bne_eq_false_iff_eq.mpr c6
       clear c6
       obtain rfl:=Option.some.inj H
       have p350:0≤(x8_1:Int):=of_decide_eq_true (by first | (with_reducible assumption) | assumption)
       have q350:x8_1<(l0.length:Int):=of_decide_eq_true (by first | (with_reducible assumption) | assumption)
       obtain ⟨ad350,e350,hx350_0⟩:=Kd.at_string HR0.out x8_1 p350 q350
       cases e350
       replace p350:=eq_true p350
       replace q350:=eq_true q350
       go_wp2
       go_ret
       exact ⟨by first | rfl | (simp;done) | (simp[*];done),by repeat (first | exact Drawn0.refl _ | apply Drawn0.step)⟩
      ·rw[if_neg c6]at H
       have c6b0:(a1.toList == (rdOf ByteArray.empty l0 x8_1).toList)=false:=beq_eq_false_iff_ne.mpr c6
       have c6b1:(a1.toList != (rdOf ByteArray.empty l0 x8_1).toList)=true:=bne_iff_ne.mpr c6
       have H' :=Aside0.mk H
       clear H
       have p350:0≤(x8_1:Int):=of_decide_eq_true (by first | (with_reducible assumption) | assumption)
       have q350:x8_1<(l0.length:Int):=of_decide_eq_true (by first | (with_reducible assumption) | assumption)
       obtain ⟨ad350,e350,hx350_0⟩:=Kd.at_string HR0.out x8_1 p350 q350
       cases e350
       replace p350:=eq_true p350
       replace q350:=eq_true q350
       go_wp2
       go_roundg k1
       case measure=>have:=HK1.out;omega
       case rel=>exact ⟨(wrap64 (x8_1+1)),(by first | rfl | (simp;done) | (simp[*];done)),H',⟨by have:=HK1.out;omega⟩,by repeat (first | exact Drawn0.refl _ | apply Drawn0.step)⟩
     ·rw[if_neg c5]at H
      exact absurd H (by simp)
    ·rw[if_neg c4]at H
     exact absurd H (by simp)
   ·rw[if_neg c3]at H
    have c3b0:decide (x8_1<(l0.length:Int))=false:=decide_eq_false c3
    clear c3
    obtain rfl:=Option.some.inj H
    go_wp2
    go_ret
    exact ⟨by first | rfl | (simp;done) | (simp[*];done),by repeat (first | exact Drawn0.refl _ | apply Drawn0.step)⟩
def slices_Contains_string_string.f (k:Nat) (l0:List ByteArray) (a1:ByteArray):Option (Bool):=(slices_Index_string_string.f k l0 a1).bind fun t351=>(some (decide (t351≥0)))
set_option maxHeartbeats 8000000 in
set_option maxRecDepth 100000 in
theorem slices_Contains_string_string.calls (k:Nat) (A0:Option Addr) (c0:Nat) (l0:List ByteArray) (a1:ByteArray) (r:Bool) (w:World) (hr0:Kd.C Kd.string w A0 l0.length l0) (hc0:l0.length≤c0) (h:slices_Contains_string_string.f k l0 a1=some r) :
  Calls Tryz.prog 117 #[.slice A0 l0.length c0,.string a1] w fun e w' =>e= .returned (.bool r)∧Drawn0 w w' :=by
 have HR0:=Aside0.mk hr0
 have HC0:=Aside0.mk hc0
 clear hr0 hc0
 have H:((slices_Index_string_string.f k l0 a1).bind fun t351=>(some (decide (t351≥0))))=some r:=h
 clear h
 replace H:=Option.bind_eq_some_iff.mp H
 obtain ⟨t351,A30,H⟩:=H
 replace H:(some (decide (t351≥0)))=some r:=H
 have A3:=Aside0.mk A30
 clear A30
 obtain rfl:=Option.some.inj H
 go_enter Tryz.func117,Tryz.ntmps117
 go_wp2_with (first | ((with_reducible refine gate_callee (f:=154) rfl ?_);refine goesL_ (some 7) rfl rfl Tryz.func154 (by kernel_rfl) rfl #[.slice A0 l0.length c0,.string a1] rfl (by (try simp only[List.map_toArray,List.map_cons,List.map_nil]);first | done | rfl | (simp only[List.length_drop,List.length_take];rfl)) ?_;(with_reducible refine (slices_Index_string_string.calls k _ _ l0 a1 t351 _ ?side1 ?side2 A3.out).mono ?_);(case side1=>repeat (first | exact HR0.out | (with_reducible refine Kd.C_alloc ?_ _) | (with_reducible refine Kd.C_drewN ?_ _) | (with_reducible refine Kd.C_drew ?_)));(case side2=>exact HC0.out);rintro e w' ⟨rfl,⟨nd,rfl⟩⟩;refine ⟨_,rfl,?_⟩))
 go_ret
 exact ⟨by first | rfl | (simp;done) | (simp[*];done),by repeat (first | exact Drawn0.refl _ | apply Drawn0.step)⟩
def signature_SortOf.l0:Nat→ByteArray→List (S105)→Int→Int→Option (ByteArray×Bool)
 |0,_,_,_,_=>none
 |k+1,x1,x9,x10,x11=>if x11<x10 then (if 0≤x11 then (if x11<(x9.length:Int)then (if ((rd_T105 x9 x11).f0).toList=x1.toList then (some ((rd_T105 x9 x11).f1,true))else (signature_SortOf.l0 k x1 x9 x10 (wrap64 (x11+1))))else (none))else (none))else (some ((⟨#[]⟩:ByteArray),false))
def signature_SortOf.f (k:Nat) (l0_0:List ByteArray) (l0_1:List (S105)) (l0_2:List (S107)) (a1:ByteArray):Option (ByteArray×Bool):=signature_SortOf.l0 k a1 l0_1 (l0_1.length:Int) 0
set_option maxHeartbeats 8000000 in
set_option maxRecDepth 100000 in
theorem signature_SortOf.calls (k:Nat) (A0_0:Option Addr) (c0_0:Nat) (l0_0:List ByteArray) (A0_1:Option Addr) (c0_1:Nat) (l0_1:List (S105)) (A0_2:Option Addr) (c0_2:Nat) (l0_2:List (S107)) (a1:ByteArray) (r1:ByteArray) (r2:Bool) (w:World) (hr0_0:Kd.C Kd.string w A0_0 l0_0.length l0_0) (hc0_0:l0_0.length≤c0_0) (hr0_1:Kd.C k105 w A0_1 l0_1.length l0_1) (hc0_1:l0_1.length≤c0_1) (hr0_2:Kd.C k107 w A0_2 l0_2.length l0_2) (hc0_2:l0_2.length≤c0_2) (h:signature_SortOf.f k l0_0 l0_1 l0_2 a1=some (r1,r2)) :
  Calls Tryz.prog 159 #[.agg #[.slice A0_0 l0_0.length c0_0,.slice A0_1 l0_1.length c0_1,.slice A0_2 l0_2.length c0_2],.string a1] w fun e w' =>e= .returned (.tuple #[.string r1,.bool r2])∧Below w.heap.size w w' :=by
 have hu26:=Tryz.underlying26
 have hu105:=Tryz.underlying105
 have HR0_0:=Aside0.mk hr0_0
 have HC0_0:=Aside0.mk hc0_0
 clear hr0_0 hc0_0
 have HR0_1:=Aside0.mk hr0_1
 have HC0_1:=Aside0.mk hc0_1
 clear hr0_1 hc0_1
 have HR0_2:=Aside0.mk hr0_2
 have HC0_2:=Aside0.mk hc0_2
 clear hr0_2 hc0_2
 have HB:=Aside0.mk (Below.refl w.heap.size w)
 have H:(signature_SortOf.l0 k a1 l0_1 (l0_1.length:Int) 0)=some (r1,r2):=h
 clear h
 have H' :=Aside0.mk H
 clear H
 go_enter Tryz.func159,Tryz.ntmps159
 go_wp2_with (first | ((with_reducible refine gate_dst (N:=2) rfl ?_);refine box_event ?hg (N:=2) ?hd (cs:= #[.slice A0_0 l0_0.length c0_0,.slice A0_1 l0_1.length c0_1,.slice A0_2 l0_2.length c0_2]) (t:=26) ?hr ?_;(case hd=>rfl);(case hg=>rfl);(case hr=>first | (go_simp;done) | (go_simp;rfl));intro gb367 hg w3 hbox hb;have n0_:=Aside0.mk (below_step (by repeat (first | (with_reducible first | exact HB.out | apply below_alloc | apply pw_below_drewN | apply below_drew1) | exact HB.out)) hb);have n1_:=Aside0.mk (hbox);have n2_:=Aside0.mk ((by rw[hg];exact (below_size (by repeat (first | (with_reducible first | exact HB.out | apply below_alloc | apply pw_below_drewN | apply below_drew1) | exact HB.out))):w.heap.size≤gb367));have n3_:=Aside0.mk ((by rw[hg];exact (below_size (by repeat (first | (with_reducible first | exact HB.out | apply below_alloc | apply pw_below_drewN | apply below_drew1) | exact HB.out))):w.heap.size≤gb367));clear HB;have HB:=n0_;have BK367:=n1_;have GW367:=n2_;have GE367:=n3_;clear n0_ n1_ n2_ n3_;clear hb hbox hg;have hcz4_0:w3.cell? ⟨gb367,0,none⟩=some (.slice A0_0 l0_0.length c0_0):=(blk_cell BK367.out 0).trans rfl;have hcz4_1:w3.cell? ⟨gb367,1,none⟩=some (.slice A0_1 l0_1.length c0_1):=(blk_cell BK367.out 1).trans rfl;have hcz4_2:w3.cell? ⟨gb367,2,none⟩=some (.slice A0_2 l0_2.length c0_2):=(blk_cell BK367.out 2).trans rfl;have hfz4_0:=blk_frozen BK367.out 0;have hfz4_1:=blk_frozen BK367.out 1;have hfz4_2:=blk_frozen BK367.out 2))
 go_loopg [11] k (fun kq v11 w' =>∃(x11_1:Int),v11= .int .i64 x11_1∧Aside0 (signature_SortOf.l0 kq a1 l0_1 (l0_1.length:Int) x11_1=some (r1,r2))∧Aside0 (kq≤k)∧Aside0 (w'.heap[gb367]? =some (.cells #[(.slice A0_0 l0_0.length c0_0),(.slice A0_1 l0_1.length c0_1),(.slice A0_2 l0_2.length c0_2)] 26 (0,0)))∧Aside0 (Below w.heap.size w w'))
 case atStart=>exact ⟨(0),(by first | rfl | (simp;done) | (simp[*];done)),H',⟨Nat.le_refl _⟩,⟨by (with_reducible repeat (first | refine blk_drewN ?_ _ | refine blk_drew ?_ | refine blk_alloc ?_ _));exact BK367.out⟩,⟨by repeat (first | (with_reducible first | exact HB.out | apply below_alloc | apply pw_below_drewN | apply below_drew1 | refine below_set ?_ GE367.out) | exact HB.out)⟩⟩
 case round =>
  clear H'
  try clear c1
  try clear p2
  try clear hcz4_0
  try clear hcz4_1
  try clear hcz4_2
  try clear hfz4_0
  try clear hfz4_1
  try clear hfz4_2
  obtain ⟨x11_1,rfl,HA,HK1,BK367,HB⟩:=hrel
  cases gk with
  |zero=>exact absurd HA.out (by simp[signature_SortOf.l0])
  |succ k1 =>
   have H:=HA.out
   clear HA
   simp only[signature_SortOf.l0]at H
   by_cases c5:x11_1<(l0_1.length:Int)
   ·rw[if_pos c5]at H
    have c5b0:decide (x11_1<(l0_1.length:Int))=true:=decide_eq_true c5
    clear c5
    by_cases c6:0≤x11_1
    ·rw[if_pos c6]at H
     have c6b0:decide (0≤x11_1)=true:=decide_eq_true c6
     clear c6
     by_cases c7:x11_1<(l0_1.length:Int)
     ·rw[if_pos c7]at H
      have c7b0:decide (x11_1<(l0_1.length:Int))=true:=decide_eq_true c7
      clear c7
      by_cases c8:((rd_T105 l0_1 x11_1).f0).toList=a1.toList
      ·rw[if_pos c8]at H
       have c8b0:(((rd_T105 l0_1 x11_1).f0).toList == a1.toList)=true:=beq_iff_eq.mpr c8
       have c8b1:(((rd_T105 l0_1 x11_1).f0).toList != a1.toList)=false:=bne_eq_false_iff_eq.mpr c8
       clear c8
       simp only[Option.some.injEq,Prod.mk.injEq]at H
       obtain ⟨rfl,rfl⟩:=H
       have p368:0≤(x11_1:Int):=of_decide_eq_true (by first | (with_reducible assumption) | assumption)
       have q368:x11_1<(l0_1.length:Int):=of_decide_eq_true (by first | (with_reducible assumption) | assumption)
       obtain ⟨ad368,e368,hx368_0,hx368_1⟩:=at_T105 HR0_1.out x11_1 p368 q368
       cases e368
       replace hx368_0:=(HB.out.cell (World.block_lt_of_cell? w _ hx368_0)).trans hx368_0
       replace hx368_1:=(HB.out.cell (World.block_lt_of_cell? w _ hx368_1)).trans hx368_1
       replace p368:=eq_true p368
       replace q368:=eq_true q368
       go_wp2_with (first | ((with_reducible refine gate_dst (N:=7) rfl ?_);refine box_event ?hg (N:=7) ?hd (cs:= #[.string (⟨#[]⟩:ByteArray),.string (⟨#[]⟩:ByteArray)]) (t:=105) ?hr ?_;(case hd=>rfl);(case hg=>rfl);(case hr=>first | (go_simp;done) | (go_simp;rfl));intro gb369 hg w9 hbox hb;have n0_:=Aside0.mk (blk_below (g:=gb367) (o:= .cells #[.slice A0_0 l0_0.length c0_0,.slice (some ad368) l0_1.length c0_1,.slice A0_2 l0_2.length c0_2] 26 (0,0)) (by (with_reducible repeat (first | refine blk_drewN ?_ _ | refine blk_drew ?_ | refine blk_alloc ?_ _));exact BK367.out) hb);have n1_:=Aside0.mk (below_step (by repeat (first | (with_reducible first | exact HB.out | apply below_alloc | apply pw_below_drewN | apply below_drew1 | refine below_set ?_ GE367.out) | exact HB.out)) hb);have n2_:=Aside0.mk (hbox);have n3_:=Aside0.mk ((by rw[hg];exact (below_size (by repeat (first | (with_reducible first | exact HB.out | apply below_alloc | apply pw_below_drewN | apply below_drew1 | refine below_set ?_ GE367.out) | exact HB.out))):w.heap.size≤gb369));have n4_:=Aside0.mk ((by rw[hg];exact (below_size (by repeat (first | (with_reducible first | exact HB.out | apply below_alloc | apply pw_below_drewN | apply below_drew1 | refine below_set ?_ GE367.out) | exact HB.out))):w.heap.size≤gb369));have n5_:=Aside0.mk ((by rw[hg];exact Nat.ne_of_lt (blk_lt (g:=gb367) (o:= .cells #[.slice A0_0 l0_0.length c0_0,.slice (some ad368) l0_1.length c0_1,.slice A0_2 l0_2.length c0_2] 26 (0,0)) (by (with_reducible repeat (first | refine blk_drewN ?_ _ | refine blk_drew ?_ | refine blk_alloc ?_ _));exact BK367.out)):gb367≠gb369));have n6_:=Aside0.mk ((by rw[hg];exact Nat.ne_of_gt (blk_lt (g:=gb367) (o:= .cells #[.slice A0_0 l0_0.length c0_0,.slice (some ad368) l0_1.length c0_1,.slice A0_2 l0_2.length c0_2] 26 (0,0)) (by (with_reducible repeat (first | refine blk_drewN ?_ _ | refine blk_drew ?_ | refine blk_alloc ?_ _));exact BK367.out)):gb369≠gb367));clear BK367;clear HB;have BK367:=n0_;have HB:=n1_;have BK369:=n2_;have GW369:=n3_;have GE369:=n4_;have NB367_369:=n5_;have NB369_367:=n6_;clear n0_ n1_ n2_ n3_ n4_ n5_ n6_;clear hb hbox hg;have hnb10:=NB369_367.out;have hnc10:=NB367_369.out;have hcz11_0:w9.cell? ⟨gb369,0,none⟩=some (.string (⟨#[]⟩:ByteArray)):=(blk_cell BK369.out 0).trans rfl;have hcz11_1:w9.cell? ⟨gb369,1,none⟩=some (.string (⟨#[]⟩:ByteArray)):=(blk_cell BK369.out 1).trans rfl;have hfz11_0:=blk_frozen BK369.out 0;have hfz11_1:=blk_frozen BK369.out 1))
       go_ret2
       exact ⟨by first | rfl | (simp[errW_none,errW_some]<;>rfl) | (simp[*,errW_none,errW_some]<;>rfl),by repeat (first | (with_reducible first | exact HB.out | apply below_alloc | apply pw_below_drewN | apply below_drew1 | refine below_set ?_ GE367.out | refine below_set ?_ GE369.out) | exact HB.out)⟩
      ·rw[if_neg c8]at H
       have c8b0:(((rd_T105 l0_1 x11_1).f0).toList == a1.toList)=false:=beq_eq_false_iff_ne.mpr c8
       have c8b1:(((rd_T105 l0_1 x11_1).f0).toList != a1.toList)=true:=bne_iff_ne.mpr c8
       have H' :=Aside0.mk H
       clear H
       have p368:0≤(x11_1:Int):=of_decide_eq_true (by first | (with_reducible assumption) | assumption)
       have q368:x11_1<(l0_1.length:Int):=of_decide_eq_true (by first | (with_reducible assumption) | assumption)
       obtain ⟨ad368,e368,hx368_0,hx368_1⟩:=at_T105 HR0_1.out x11_1 p368 q368
       cases e368
       replace hx368_0:=(HB.out.cell (World.block_lt_of_cell? w _ hx368_0)).trans hx368_0
       replace hx368_1:=(HB.out.cell (World.block_lt_of_cell? w _ hx368_1)).trans hx368_1
       replace p368:=eq_true p368
       replace q368:=eq_true q368
       go_wp2_with (first | ((with_reducible refine gate_dst (N:=7) rfl ?_);refine box_event ?hg (N:=7) ?hd (cs:= #[.string (⟨#[]⟩:ByteArray),.string (⟨#[]⟩:ByteArray)]) (t:=105) ?hr ?_;(case hd=>rfl);(case hg=>rfl);(case hr=>first | (go_simp;done) | (go_simp;rfl));intro gb369 hg w12 hbox hb;have n0_:=Aside0.mk (blk_below (g:=gb367) (o:= .cells #[.slice A0_0 l0_0.length c0_0,.slice (some ad368) l0_1.length c0_1,.slice A0_2 l0_2.length c0_2] 26 (0,0)) (by (with_reducible repeat (first | refine blk_drewN ?_ _ | refine blk_drew ?_ | refine blk_alloc ?_ _));exact BK367.out) hb);have n1_:=Aside0.mk (below_step (by repeat (first | (with_reducible first | exact HB.out | apply below_alloc | apply pw_below_drewN | apply below_drew1 | refine below_set ?_ GE367.out) | exact HB.out)) hb);have n2_:=Aside0.mk (hbox);have n3_:=Aside0.mk ((by rw[hg];exact (below_size (by repeat (first | (with_reducible first | exact HB.out | apply below_alloc | apply pw_below_drewN | apply below_drew1 | refine below_set ?_ GE367.out) | exact HB.out))):w.heap.size≤gb369));have n4_:=Aside0.mk ((by rw[hg];exact (below_size (by repeat (first | (with_reducible first | exact HB.out | apply below_alloc | apply pw_below_drewN | apply below_drew1 | refine below_set ?_ GE367.out) | exact HB.out))):w.heap.size≤gb369));have n5_:=Aside0.mk ((by rw[hg];exact Nat.ne_of_lt (blk_lt (g:=gb367) (o:= .cells #[.slice A0_0 l0_0.length c0_0,.slice (some ad368) l0_1.length c0_1,.slice A0_2 l0_2.length c0_2] 26 (0,0)) (by (with_reducible repeat (first | refine blk_drewN ?_ _ | refine blk_drew ?_ | refine blk_alloc ?_ _));exact BK367.out)):gb367≠gb369));have n6_:=Aside0.mk ((by rw[hg];exact Nat.ne_of_gt (blk_lt (g:=gb367) (o:= .cells #[.slice A0_0 l0_0.length c0_0,.slice (some ad368) l0_1.length c0_1,.slice A0_2 l0_2.length c0_2] 26 (0,0)) (by (with_reducible repeat (first | refine blk_drewN ?_ _ | refine blk_drew ?_ | refine blk_alloc ?_ _));exact BK367.out)):gb369≠gb367));clear BK367;clear HB;have BK367:=n0_;have HB:=n1_;have BK369:=n2_;have GW369:=n3_;have GE369:=n4_;have NB367_369:=n5_;have NB369_367:=n6_;clear n0_ n1_ n2_ n3_ n4_ n5_ n6_;clear hb hbox hg;have hnb13:=NB369_367.out;have hnc13:=NB367_369.out;have hcz14_0:w12.cell? ⟨gb369,0,none⟩=some (.string (⟨#[]⟩:ByteArray)):=(blk_cell BK369.out 0).trans rfl;have hcz14_1:w12.cell? ⟨gb369,1,none⟩=some (.string (⟨#[]⟩:ByteArray)):=(blk_cell BK369.out 1).trans rfl;have hfz14_0:=blk_frozen BK369.out 0;have hfz14_1:=blk_frozen BK369.out 1))
       go_roundg k1
       case measure=>have:=HK1.out;omega
       case rel=>exact ⟨(wrap64 (x11_1+1)),(by first | rfl | (simp;done) | (simp[*];done)),H',⟨by have:=HK1.out;omega⟩,⟨by (with_reducible repeat (first | refine blk_drewN ?_ _ | refine blk_drew ?_ | refine blk_alloc ?_ _));refine blk_far ?_ NB367_369.out _;(with_reducible repeat (first | refine blk_drewN ?_ _ | refine blk_drew ?_ | refine blk_alloc ?_ _));refine blk_far ?_ NB367_369.out _;(with_reducible repeat (first | refine blk_drewN ?_ _ | refine blk_drew ?_ | refine blk_alloc ?_ _));exact BK367.out⟩,⟨by repeat (first | (with_reducible first | exact HB.out | apply below_alloc | apply pw_below_drewN | apply below_drew1 | refine below_set ?_ GE367.out | refine below_set ?_ GE369.out) | exact HB.out)⟩⟩
     ·rw[if_neg c7]at H
      exact absurd H (by simp)
    ·rw[if_neg c6]at H
     exact absurd H (by simp)
   ·rw[if_neg c5]at H
    have c5b0:decide (x11_1<(l0_1.length:Int))=false:=decide_eq_false c5
    clear c5
    simp only[Option.some.injEq,Prod.mk.injEq]at H
    obtain ⟨rfl,rfl⟩:=H
    go_wp2
    go_ret2
    exact ⟨by first | rfl | (simp[errW_none,errW_some]<;>rfl) | (simp[*,errW_none,errW_some]<;>rfl),by repeat (first | (with_reducible first | exact HB.out | apply below_alloc | apply pw_below_drewN | apply below_drew1 | refine below_set ?_ GE367.out) | exact HB.out)⟩
end
set_option linter.unusedVariables false
set_option linter.unusedSimpArgs false
def hasS (l:List ByteArray) (x:ByteArray):Bool:=l.any fun y=>y.toList == x.toList
theorem index_ev (l:List ByteArray) (x:ByteArray) (hl:l.length≤2000000):∀(n:Nat) (i:Int),0≤i→i+n=l.length→∃r,Ev (fun k=>slices_Index_string_string.l0 k l x (l.length:Int) i) r∧decide (r≥0)=hasS (l.drop i.toNat) x
 |0,i,h0,hi=>by
  refine ⟨-1,Ev.step (f:=fun _=>some (-1)) (fun k=> ?_) (Ev.now _),?_⟩
  ·rw[slices_Index_string_string.l0,if_neg (by omega)]
  ·rw[List.drop_eq_nil_of_le (by omega)];rfl
 |n+1,i,h0,hi=>by
  obtain ⟨r,hr,he⟩:=index_ev l x hl n (i+1) (by omega) (by omega)
  have hw:wrap64 (i+1)=i+1:=wrap_small (by omega) (by omega)
  have hd:=drop_rdOf l i h0 (by omega)
  by_cases hx:x.toList=(rdOf ByteArray.empty l i).toList
  ·refine ⟨i,Ev.step (f:=fun _=>some i) (fun k=> ?_) (Ev.now _),?_⟩
   ·rw[slices_Index_string_string.l0,if_pos (by omega),if_pos (by omega),if_pos (by omega),if_pos hx]
   ·rw[hd];unfold hasS;rw[List.any_cons,←hx];simp[h0]
  ·refine ⟨r,Ev.step (fun k=>by rw[slices_Index_string_string.l0,if_pos (by omega),if_pos (by omega),if_pos (by omega),if_neg hx,hw]) hr,?_⟩
   rw[he,hd];unfold hasS;rw[List.any_cons]
   have:((rdOf ByteArray.empty l i).toList == x.toList)=false:=beq_eq_false_iff_ne.mpr (fun h=>hx h.symm)
   rw[this,Bool.false_or]
theorem contains_calls (A:Option Addr) (c:Nat) (l:List ByteArray) (x:ByteArray) (w:World) (hr:Kd.C Kd.string w A l.length l) (hc:l.length≤c) (hl:l.length≤2000000):Calls Tryz.prog 117 #[.slice A l.length c,.string x] w fun e w' =>e= .returned (.bool (hasS l x))∧Drawn0 w w' :=by
 obtain ⟨r,hr',he⟩:=index_ev l x hl l.length 0 (Int.le_refl _) (by omega)
 obtain ⟨k,hk⟩:=hr'.rounds
 refine slices_Contains_string_string.calls k A c l x (hasS l x) w hr hc ?_
 unfold slices_Contains_string_string.f slices_Index_string_string.f
 rw[hk]
 show some (decide (r≥0))=_
 rw[he];rfl
def bindVar (depth:Int) (sort:ByteArray):Tm:=⟨1,⟨#[]⟩,depth,sort⟩
def orBad (m:S70) (b:Bool):S70:=⟨m.f0,m.f1,m.f2,m.f3 || b⟩
def quantP (ss:List ByteArray) (op:Int) (sort:ByteArray) (depth:Int) (f:Prd):Option S70 :=
 (f (wrap64 (depth+1)) (bindVar depth sort)).map fun m=>orBad (nodeP op sort 0 0 [m]) (!hasS ss sort)
set_option maxHeartbeats 2000000 in
set_option maxRecDepth 100000 in
theorem quantify_no (w:World) (bp:Nat) (op:Int) (sort:ByteArray) (depth:Int) (v:Value) (f:Prd) (hf:PrdV w (fun _=>True) v f) (hm:f (wrap64 (depth+1)) (bindVar depth sort)=none) :
  Calls Tryz.prog 160 #[.pointer (some ⟨bp,0,none⟩),.int .i64 op,.string sort,.int .i64 depth,v] w (PostM w none):=by
 obtain ⟨g,cap,rfl,he,hf⟩:=hf
 have HB0:=Aside0.mk (below_alloc (Below.refl w.heap.size w) (.cells #[.int .i64 0,.string ⟨#[]⟩,.slice none 0 0,.int .i64 0,.int .i64 0,.slice none 0 0,.int .i64 0,.int .i64 0,.bool false] 70))
 have C:=Aside0.mk (hf.below HB0.out |>.now (wrap64 (depth+1)) (bindVar depth sort))
 rw[hm]at C
 unfold bindVar tmV at C
 simp only at C
 have he' :=fun args W=>he args W
 clear hf hm he
 go_enter Tryz.func160,Tryz.ntmps160
 go_wp2_with ((with_reducible refine C.out.mono ?_);rintro e w2 ⟨hB,rfl⟩;have HB1:=Aside0.mk (below_step HB0.out hB);clear hB)
 exact ⟨rfl,PostM.no HB1.out⟩
theorem MnV.orBad {w:World} {ok:Nat→Prop} {n:S70} {A2 A5:Option Addr} {c2 c5:Nat} {b:Bool} (h:MnV w ok (mnW n A2 c2 A5 c5) n):MnV w ok (mnW (A.orBad n b) A2 c2 A5 c5) (A.orBad n b):=by
 obtain ⟨B2,d2,B5,d5,e,l2,g2,l5,g5⟩:=h
 obtain ⟨rfl,rfl,rfl,rfl⟩:=mnW_inj e
 exact ⟨A2,c2,A5,c5,rfl,l2,g2,l5,g5⟩
set_option maxHeartbeats 2000000 in
set_option maxRecDepth 100000 in
theorem quantify_yes (w:World) (bp mb:Nat) (s:Sg) (hb:Bld w bp mb s) (op:Int) (sort:ByteArray) (depth:Int) (v:Value) (f:Prd) (hf:PrdV w (fun _=>True) v f) (m:S70) (hm:f (wrap64 (depth+1)) (bindVar depth sort)=some m) :
  Calls Tryz.prog 160 #[.pointer (some ⟨bp,0,none⟩),.int .i64 op,.string sort,.int .i64 depth,v] w (PostM w (some (orBad (nodeP op sort 0 0 [m]) (!hasS s.ss sort)))):=by
 obtain ⟨g,cap,rfl,he,hf⟩:=hf
 obtain ⟨A0,c0,ss,A1,c1,cs,A2,c2,ps⟩:=s
 have HB0:=Aside0.mk (below_alloc (Below.refl w.heap.size w) (.cells #[.int .i64 0,.string ⟨#[]⟩,.slice none 0 0,.int .i64 0,.int .i64 0,.slice none 0 0,.int .i64 0,.int .i64 0,.bool false] 70))
 have HR0:=Aside0.mk (heap_alloc_new w (.cells #[.int .i64 0,.string ⟨#[]⟩,.slice none 0 0,.int .i64 0,.int .i64 0,.slice none 0 0,.int .i64 0,.int .i64 0,.bool false] 70 (0,0)))
 have HSZ:=Aside0.mk (show (w.alloc (.cells #[.int .i64 0,.string ⟨#[]⟩,.slice none 0 0,.int .i64 0,.int .i64 0,.slice none 0 0,.int .i64 0,.int .i64 0,.bool false] 70)).heap.size=w.heap.size+1 by simp)
 have HD:=Aside0.mk (hb.below HB0.out)
 have C:=Aside0.mk (hf.below HB0.out |>.now (wrap64 (depth+1)) (bindVar depth sort))
 rw[hm]at C
 unfold bindVar tmV at C
 simp only at C
 have he' :=fun args W=>he args W
 have HN:Aside0 (∀m',nodeP op sort 0 0 [m]=m' →orBad (nodeP op sort 0 0 [m]) (!hasS ss sort)=orBad m' (!hasS ss sort)):=⟨fun m' h=>by rw[h]⟩
 generalize hmm:nodeP op sort 0 0 [m]=n at *
 have HMM:=Aside0.mk hmm
 have HCT:=Aside0.mk (fun (W:World) (hW:Below (w.alloc (.cells #[.int .i64 0,.string ⟨#[]⟩,.slice none 0 0,.int .i64 0,.int .i64 0,.slice none 0 0,.int .i64 0,.int .i64 0,.bool false] 70)).heap.size (w.alloc (.cells #[.int .i64 0,.string ⟨#[]⟩,.slice none 0 0,.int .i64 0,.int .i64 0,.slice none 0 0,.int .i64 0,.int .i64 0,.bool false] 70)) W)=>contains_calls A0 c0 ss sort W (Kd.C_below HD.out.sig.h0 hW) HD.out.sig.l0 HD.out.sig.m0)
 clear hf hm he hb hmm HN
 go_enter Tryz.func160,Tryz.ntmps160
 cases hn3:n.f3 with
 |true =>
  have HN3:=Aside0.mk hn3
  go_wp2_with (first
   |((with_reducible refine C.out.mono ?_);rintro e w2 ⟨hB,v1,rfl,hv⟩;obtain ⟨E1,e1,F1,f1,rfl,hrest⟩:=id hv;clear hrest;have HB1:=Aside0.mk hB;have HV1:=Aside0.mk hv;clear hB hv;unfold mnW)
   |(go_at_call 60;refine (node1_calls op sort 0 0 HB1.out.size HV1.out).mono ?_;rintro e w3 ⟨⟨v2,rfl,hv⟩,hB⟩;rw[HMM.out]at hv;obtain ⟨E2,e2,F2,f2,rfl,hrest⟩:=id hv;clear hrest;have HB2:=Aside0.mk (below_step HB1.out hB);have HV2:=Aside0.mk hv;have RR:=Aside0.mk (fun (o:Obj)=>blk_alloc (blk_below HR0.out HB2.out) o);have zc0:=fun (o:Obj)=>blk_cell (RR.out o) 0;have zc1:=fun (o:Obj)=>blk_cell (RR.out o) 1;have zc2:=fun (o:Obj)=>blk_cell (RR.out o) 2;have zc3:=fun (o:Obj)=>blk_cell (RR.out o) 3;have zc4:=fun (o:Obj)=>blk_cell (RR.out o) 4;have zc5:=fun (o:Obj)=>blk_cell (RR.out o) 5;have zc6:=fun (o:Obj)=>blk_cell (RR.out o) 6;have zc7:=fun (o:Obj)=>blk_cell (RR.out o) 7;have zc8:=fun (o:Obj)=>blk_cell (RR.out o) 8;have zf0:=fun (o:Obj)=>blk_frozen (RR.out o) 0;have zf1:=fun (o:Obj)=>blk_frozen (RR.out o) 1;have zf2:=fun (o:Obj)=>blk_frozen (RR.out o) 2;have zf3:=fun (o:Obj)=>blk_frozen (RR.out o) 3;have zf4:=fun (o:Obj)=>blk_frozen (RR.out o) 4;have zf5:=fun (o:Obj)=>blk_frozen (RR.out o) 5;have zf6:=fun (o:Obj)=>blk_frozen (RR.out o) 6;have zf7:=fun (o:Obj)=>blk_frozen (RR.out o) 7;have zf8:=fun (o:Obj)=>blk_frozen (RR.out o) 8;simp at zc0 zc1 zc2 zc3 zc4 zc5 zc6 zc7 zc8;clear hB hv;unfold mnW))
  refine bodyPost_ret (results_single rfl (.cell w.heap.size 70 _ (0,0) _ rfl (fin9 (W:=w3.alloc (.cells #[.int .i64 n.f0.f0,.string n.f0.f1,.slice E2 n.f0.f2.length e2,.int .i64 n.f0.f3,.int .i64 n.f0.f4,.slice F2 n.f0.f5.length f2,.int .i64 n.f1,.int .i64 n.f2,.bool true] 70)) (RR.out _) (.int .i64 n.f0.f0) (.string n.f0.f1) (.slice E2 n.f0.f2.length e2) (.int .i64 n.f0.f3) (.int .i64 n.f0.f4) (.slice F2 n.f0.f5.length f2) (.int .i64 n.f1) (.int .i64 n.f2) (.bool true)) Tryz.underlying70 rfl (by kernel_rfl) .nil)) rfl ?_
  have h3:(orBad n (!hasS ss sort)).f3=true:=by unfold orBad;simp only[HN3.out];simp
  have hlt:=HSZ.out;have hlt2:w.heap.size<(w.alloc (.cells #[.int .i64 0,.string ⟨#[]⟩,.slice none 0 0,.int .i64 0,.int .i64 0,.slice none 0 0,.int .i64 0,.int .i64 0,.bool false] 70)).heap.size:=by omega
  have hfin:=PostM.stored (w3:=w3.alloc (.cells #[.int .i64 n.f0.f0,.string n.f0.f1,.slice E2 n.f0.f2.length e2,.int .i64 n.f0.f3,.int .i64 n.f0.f4,.slice F2 n.f0.f5.length f2,.int .i64 n.f1,.int .i64 n.f2,.bool true] 70)) (m:=orBad n (!hasS ss sort)) (below_step HB0.out (below_alloc HB2.out _)) (HV2.out.orBad.below (below_alloc (Below.refl _ _) _)) (Nat.le_refl _) hlt2
  unfold mnW at hfin
  rw[h3]at hfin
  exact hfin
 |false =>
  have HN3:=Aside0.mk hn3
  cases hh:hasS ss sort with
  |true =>
   rw[hh]at HCT
   have HH:=Aside0.mk hh
   clear hh
   go_wp2_with (first
    |(go_at_call 117;fail)
    |((with_reducible refine C.out.mono ?_);rintro e w2 ⟨hB,v1,rfl,hv⟩;obtain ⟨E1,e1,F1,f1,rfl,hrest⟩:=id hv;clear hrest;have HB1:=Aside0.mk hB;have HV1:=Aside0.mk hv;clear hB hv;unfold mnW)
    |(go_at_call 60;refine (node1_calls op sort 0 0 HB1.out.size HV1.out).mono ?_;rintro e w3 ⟨⟨v2,rfl,hv⟩,hB⟩;rw[HMM.out]at hv;obtain ⟨E2,e2,F2,f2,rfl,hrest⟩:=id hv;clear hrest;have HB2:=Aside0.mk (below_step HB1.out hB);have HV2:=Aside0.mk hv;have RR:=Aside0.mk (fun (o:Obj)=>blk_alloc (blk_below HR0.out HB2.out) o);have DD:=Aside0.mk (fun (o:Obj)=>blk_alloc (blk_below HD.out.blk HB2.out) o);have dd0:=fun (o:Obj)=>blk_cell (DD.out o) 0;simp at dd0;have zc0:=fun (o:Obj)=>blk_cell (RR.out o) 0;have zc1:=fun (o:Obj)=>blk_cell (RR.out o) 1;have zc2:=fun (o:Obj)=>blk_cell (RR.out o) 2;have zc3:=fun (o:Obj)=>blk_cell (RR.out o) 3;have zc4:=fun (o:Obj)=>blk_cell (RR.out o) 4;have zc5:=fun (o:Obj)=>blk_cell (RR.out o) 5;have zc6:=fun (o:Obj)=>blk_cell (RR.out o) 6;have zc7:=fun (o:Obj)=>blk_cell (RR.out o) 7;have zc8:=fun (o:Obj)=>blk_cell (RR.out o) 8;have zf0:=fun (o:Obj)=>blk_frozen (RR.out o) 0;have zf1:=fun (o:Obj)=>blk_frozen (RR.out o) 1;have zf2:=fun (o:Obj)=>blk_frozen (RR.out o) 2;have zf3:=fun (o:Obj)=>blk_frozen (RR.out o) 3;have zf4:=fun (o:Obj)=>blk_frozen (RR.out o) 4;have zf5:=fun (o:Obj)=>blk_frozen (RR.out o) 5;have zf6:=fun (o:Obj)=>blk_frozen (RR.out o) 6;have zf7:=fun (o:Obj)=>blk_frozen (RR.out o) 7;have zf8:=fun (o:Obj)=>blk_frozen (RR.out o) 8;simp at zc0 zc1 zc2 zc3 zc4 zc5 zc6 zc7 zc8;clear hB hv;unfold mnW))
   refine (HCT.out _ (below_alloc HB2.out _)).mono ?_
   rintro e w4 ⟨rfl,⟨mm,rfl⟩⟩
   have OO4:=Aside0.mk (blk_drewN (heap_alloc_new w3 (.cells #[.int .i64 n.f0.f0,.string n.f0.f1,.slice E2 n.f0.f2.length e2,.int .i64 n.f0.f3,.int .i64 n.f0.f4,.slice F2 n.f0.f5.length f2,.int .i64 n.f1,.int .i64 n.f2,.bool false] 70 (0,0))) mm)
   have RR4:=Aside0.mk (blk_drewN (RR.out (.cells #[.int .i64 n.f0.f0,.string n.f0.f1,.slice E2 n.f0.f2.length e2,.int .i64 n.f0.f3,.int .i64 n.f0.f4,.slice F2 n.f0.f5.length f2,.int .i64 n.f1,.int .i64 n.f2,.bool false] 70)) mm)
   have HB4:=Aside0.mk (pw_below_drewN (below_alloc HB2.out (.cells #[.int .i64 n.f0.f0,.string n.f0.f1,.slice E2 n.f0.f2.length e2,.int .i64 n.f0.f3,.int .i64 n.f0.f4,.slice F2 n.f0.f5.length f2,.int .i64 n.f1,.int .i64 n.f2,.bool false] 70)) mm)
   have HV4:=Aside0.mk (HV2.out.bound.below (pw_below_drewN (below_alloc (Below.refl _ w3) (.cells #[.int .i64 n.f0.f0,.string n.f0.f1,.slice E2 n.f0.f2.length e2,.int .i64 n.f0.f3,.int .i64 n.f0.f4,.slice F2 n.f0.f5.length f2,.int .i64 n.f1,.int .i64 n.f2,.bool false] 70)) mm))
   have hgw:w.heap.size<w3.heap.size:=by have:=HB2.out.size;have:=HSZ.out;omega
   generalize hW4:World.drewN (World.alloc w3 (.cells #[.int .i64 n.f0.f0,.string n.f0.f1,.slice E2 n.f0.f2.length e2,.int .i64 n.f0.f3,.int .i64 n.f0.f4,.slice F2 n.f0.f5.length f2,.int .i64 n.f1,.int .i64 n.f2,.bool false] 70)) mm=W4 at *
   clear hW4 zc0 zc1 zc2 zc3 zc4 zc5 zc6 zc7 zc8 zf0 zf1 zf2 zf3 zf4 zf5 zf6 zf7 zf8 dd0 RR DD he'
   generalize w3.heap.size=go at *
   have uc0:=blk_cell RR4.out 0
   have uc1:=blk_cell RR4.out 1
   have uc2:=blk_cell RR4.out 2
   have uc3:=blk_cell RR4.out 3
   have uc4:=blk_cell RR4.out 4
   have uc5:=blk_cell RR4.out 5
   have uc6:=blk_cell RR4.out 6
   have uc7:=blk_cell RR4.out 7
   have uc8:=blk_cell RR4.out 8
   have uf0:=blk_frozen RR4.out 0
   have uf1:=blk_frozen RR4.out 1
   have uf2:=blk_frozen RR4.out 2
   have uf3:=blk_frozen RR4.out 3
   have uf4:=blk_frozen RR4.out 4
   have uf5:=blk_frozen RR4.out 5
   have uf6:=blk_frozen RR4.out 6
   have uf7:=blk_frozen RR4.out 7
   have uf8:=blk_frozen RR4.out 8
   have oc0:=blk_cell OO4.out 0
   have oc1:=blk_cell OO4.out 1
   have oc2:=blk_cell OO4.out 2
   have oc3:=blk_cell OO4.out 3
   have oc4:=blk_cell OO4.out 4
   have oc5:=blk_cell OO4.out 5
   have oc6:=blk_cell OO4.out 6
   have oc7:=blk_cell OO4.out 7
   have oc8:=blk_cell OO4.out 8
   have of8:=blk_frozen OO4.out 8
   simp at uc0 uc1 uc2 uc3 uc4 uc5 uc6 uc7 uc8 oc0 oc1 oc2 oc3 oc4 oc5 oc6 oc7 oc8
   go_wp2
   have h3:(orBad n (!true)).f3=false:=by unfold orBad;simp only[HN3.out];rfl
   have hlt:=HSZ.out
   have hlt2:w.heap.size<(w.alloc (.cells #[.int .i64 0,.string ⟨#[]⟩,.slice none 0 0,.int .i64 0,.int .i64 0,.slice none 0 0,.int .i64 0,.int .i64 0,.bool false] 70)).heap.size:=by omega
   refine bodyPost_ret (results_single rfl (.cell w.heap.size 70 _ (0,0) _ rfl (fin9 (W:=W4.setCell ⟨go,8,none⟩ (.bool false)) (blk_far RR4.out (by simp;omega) _) (.int .i64 n.f0.f0) (.string n.f0.f1) (.slice E2 n.f0.f2.length e2) (.int .i64 n.f0.f3) (.int .i64 n.f0.f4) (.slice F2 n.f0.f5.length f2) (.int .i64 n.f1) (.int .i64 n.f2) (.bool false)) Tryz.underlying70 rfl (by kernel_rfl) .nil)) rfl ?_
   have hfin:=PostM.stored (w3:=W4.setCell ⟨go,8,none⟩ (.bool false)) (m:=orBad n (!true)) (below_set (below_step HB0.out HB4.out) (Nat.le_of_lt hgw)) (HV4.out.orBad.step (fun k hk _=>Below.heap_setCell _ ⟨go,8,none⟩ _ k (show k≠go by have:=hk.2;omega)) |>.mono (fun k hk=>hk.1)) (Nat.le_refl _) hlt2
   unfold mnW at hfin
   rw[h3]at hfin
   exact hfin
  |false =>
   rw[hh]at HCT
   have HH:=Aside0.mk hh
   clear hh
   go_wp2_with (first
    |(go_at_call 117;fail)
    |((with_reducible refine C.out.mono ?_);rintro e w2 ⟨hB,v1,rfl,hv⟩;obtain ⟨E1,e1,F1,f1,rfl,hrest⟩:=id hv;clear hrest;have HB1:=Aside0.mk hB;have HV1:=Aside0.mk hv;clear hB hv;unfold mnW)
    |(go_at_call 60;refine (node1_calls op sort 0 0 HB1.out.size HV1.out).mono ?_;rintro e w3 ⟨⟨v2,rfl,hv⟩,hB⟩;rw[HMM.out]at hv;obtain ⟨E2,e2,F2,f2,rfl,hrest⟩:=id hv;clear hrest;have HB2:=Aside0.mk (below_step HB1.out hB);have HV2:=Aside0.mk hv;have RR:=Aside0.mk (fun (o:Obj)=>blk_alloc (blk_below HR0.out HB2.out) o);have DD:=Aside0.mk (fun (o:Obj)=>blk_alloc (blk_below HD.out.blk HB2.out) o);have dd0:=fun (o:Obj)=>blk_cell (DD.out o) 0;simp at dd0;have zc0:=fun (o:Obj)=>blk_cell (RR.out o) 0;have zc1:=fun (o:Obj)=>blk_cell (RR.out o) 1;have zc2:=fun (o:Obj)=>blk_cell (RR.out o) 2;have zc3:=fun (o:Obj)=>blk_cell (RR.out o) 3;have zc4:=fun (o:Obj)=>blk_cell (RR.out o) 4;have zc5:=fun (o:Obj)=>blk_cell (RR.out o) 5;have zc6:=fun (o:Obj)=>blk_cell (RR.out o) 6;have zc7:=fun (o:Obj)=>blk_cell (RR.out o) 7;have zc8:=fun (o:Obj)=>blk_cell (RR.out o) 8;have zf0:=fun (o:Obj)=>blk_frozen (RR.out o) 0;have zf1:=fun (o:Obj)=>blk_frozen (RR.out o) 1;have zf2:=fun (o:Obj)=>blk_frozen (RR.out o) 2;have zf3:=fun (o:Obj)=>blk_frozen (RR.out o) 3;have zf4:=fun (o:Obj)=>blk_frozen (RR.out o) 4;have zf5:=fun (o:Obj)=>blk_frozen (RR.out o) 5;have zf6:=fun (o:Obj)=>blk_frozen (RR.out o) 6;have zf7:=fun (o:Obj)=>blk_frozen (RR.out o) 7;have zf8:=fun (o:Obj)=>blk_frozen (RR.out o) 8;simp at zc0 zc1 zc2 zc3 zc4 zc5 zc6 zc7 zc8;clear hB hv;unfold mnW))
   refine (HCT.out _ (below_alloc HB2.out _)).mono ?_
   rintro e w4 ⟨rfl,⟨mm,rfl⟩⟩
   have OO4:=Aside0.mk (blk_drewN (heap_alloc_new w3 (.cells #[.int .i64 n.f0.f0,.string n.f0.f1,.slice E2 n.f0.f2.length e2,.int .i64 n.f0.f3,.int .i64 n.f0.f4,.slice F2 n.f0.f5.length f2,.int .i64 n.f1,.int .i64 n.f2,.bool false] 70 (0,0))) mm)
   have RR4:=Aside0.mk (blk_drewN (RR.out (.cells #[.int .i64 n.f0.f0,.string n.f0.f1,.slice E2 n.f0.f2.length e2,.int .i64 n.f0.f3,.int .i64 n.f0.f4,.slice F2 n.f0.f5.length f2,.int .i64 n.f1,.int .i64 n.f2,.bool false] 70)) mm)
   have HB4:=Aside0.mk (pw_below_drewN (below_alloc HB2.out (.cells #[.int .i64 n.f0.f0,.string n.f0.f1,.slice E2 n.f0.f2.length e2,.int .i64 n.f0.f3,.int .i64 n.f0.f4,.slice F2 n.f0.f5.length f2,.int .i64 n.f1,.int .i64 n.f2,.bool false] 70)) mm)
   have HV4:=Aside0.mk (HV2.out.bound.below (pw_below_drewN (below_alloc (Below.refl _ w3) (.cells #[.int .i64 n.f0.f0,.string n.f0.f1,.slice E2 n.f0.f2.length e2,.int .i64 n.f0.f3,.int .i64 n.f0.f4,.slice F2 n.f0.f5.length f2,.int .i64 n.f1,.int .i64 n.f2,.bool false] 70)) mm))
   have hgw:w.heap.size<w3.heap.size:=by have:=HB2.out.size;have:=HSZ.out;omega
   generalize hW4:World.drewN (World.alloc w3 (.cells #[.int .i64 n.f0.f0,.string n.f0.f1,.slice E2 n.f0.f2.length e2,.int .i64 n.f0.f3,.int .i64 n.f0.f4,.slice F2 n.f0.f5.length f2,.int .i64 n.f1,.int .i64 n.f2,.bool false] 70)) mm=W4 at *
   clear hW4 zc0 zc1 zc2 zc3 zc4 zc5 zc6 zc7 zc8 zf0 zf1 zf2 zf3 zf4 zf5 zf6 zf7 zf8 dd0 RR DD he'
   generalize w3.heap.size=go at *
   have uc0:=blk_cell RR4.out 0
   have uc1:=blk_cell RR4.out 1
   have uc2:=blk_cell RR4.out 2
   have uc3:=blk_cell RR4.out 3
   have uc4:=blk_cell RR4.out 4
   have uc5:=blk_cell RR4.out 5
   have uc6:=blk_cell RR4.out 6
   have uc7:=blk_cell RR4.out 7
   have uc8:=blk_cell RR4.out 8
   have uf0:=blk_frozen RR4.out 0
   have uf1:=blk_frozen RR4.out 1
   have uf2:=blk_frozen RR4.out 2
   have uf3:=blk_frozen RR4.out 3
   have uf4:=blk_frozen RR4.out 4
   have uf5:=blk_frozen RR4.out 5
   have uf6:=blk_frozen RR4.out 6
   have uf7:=blk_frozen RR4.out 7
   have uf8:=blk_frozen RR4.out 8
   have oc0:=blk_cell OO4.out 0
   have oc1:=blk_cell OO4.out 1
   have oc2:=blk_cell OO4.out 2
   have oc3:=blk_cell OO4.out 3
   have oc4:=blk_cell OO4.out 4
   have oc5:=blk_cell OO4.out 5
   have oc6:=blk_cell OO4.out 6
   have oc7:=blk_cell OO4.out 7
   have oc8:=blk_cell OO4.out 8
   have of8:=blk_frozen OO4.out 8
   simp at uc0 uc1 uc2 uc3 uc4 uc5 uc6 uc7 uc8 oc0 oc1 oc2 oc3 oc4 oc5 oc6 oc7 oc8
   go_wp2
   have h3:(orBad n (!false)).f3=true:=by unfold orBad;simp only[HN3.out];rfl
   have hlt:=HSZ.out
   have hlt2:w.heap.size<(w.alloc (.cells #[.int .i64 0,.string ⟨#[]⟩,.slice none 0 0,.int .i64 0,.int .i64 0,.slice none 0 0,.int .i64 0,.int .i64 0,.bool false] 70)).heap.size:=by omega
   refine bodyPost_ret (results_single rfl (.cell w.heap.size 70 _ (0,0) _ rfl (fin9 (W:=W4.setCell ⟨go,8,none⟩ (.bool true)) (blk_far RR4.out (by simp;omega) _) (.int .i64 n.f0.f0) (.string n.f0.f1) (.slice E2 n.f0.f2.length e2) (.int .i64 n.f0.f3) (.int .i64 n.f0.f4) (.slice F2 n.f0.f5.length f2) (.int .i64 n.f1) (.int .i64 n.f2) (.bool true)) Tryz.underlying70 rfl (by kernel_rfl) .nil)) rfl ?_
   have hfin:=PostM.stored (w3:=W4.setCell ⟨go,8,none⟩ (.bool true)) (m:=orBad n (!false)) (below_set (below_step HB0.out HB4.out) (Nat.le_of_lt hgw)) (HV4.out.orBad.step (fun k hk _=>Below.heap_setCell _ ⟨go,8,none⟩ _ k (show k≠go by have:=hk.2;omega)) |>.mono (fun k hk=>hk.1)) (Nat.le_refl _) hlt2
   unfold mnW at hfin
   rw[h3]at hfin
   exact hfin
theorem quantify_calls (w:World) (bp mb:Nat) (s:Sg) (hb:Bld w bp mb s) (op:Int) (sort:ByteArray) (depth:Int) (v:Value) (f:Prd) (hf:PrdV w (fun _=>True) v f) :
  Calls Tryz.prog 160 #[.pointer (some ⟨bp,0,none⟩),.int .i64 op,.string sort,.int .i64 depth,v] w (PostM w (quantP s.ss op sort depth f)):=by
 unfold quantP
 cases hm:f (wrap64 (depth+1)) (bindVar depth sort)with
 |none=>exact quantify_no w bp op sort depth v f hf hm
 |some m=>exact quantify_yes w bp mb s hb op sort depth v f hf m hm
def kidOf (t:S30) (i:Nat):S30:=t.f2.getD i z30
def isF (t:S30) (l:List UInt8):Bool:=t.f0.toList == l
def bNoun:List UInt8:=([78,111,117,110]:List UInt8)
def bAdj:List UInt8:=([65,100,106]:List UInt8)
def bAndVP:List UInt8:=([65,110,100,86,80]:List UInt8)
def bAct:List UInt8:=([65,99,116]:List UInt8)
def bCost:List UInt8:=([67,111,115,116]:List UInt8)
def bDo:List UInt8:=([68,111]:List UInt8)
def bName:List UInt8:=([78,97,109,101]:List UInt8)
def bBoth:List UInt8:=([66,111,116,104]:List UInt8)
def bSome:List UInt8:=([83,111,109,101]:List UInt8)
def bNo:List UInt8:=([78,111]:List UInt8)
def bExc:List UInt8:=([69,118,101,114,121,69,120,99,101,112,116]:List UInt8)
def sNumber:ByteArray:=⟨#[110,117,109,98,101,114]⟩
def joinP (c v:Prd):Prd:=fun depth x=>(c depth x).bind fun m1=>(v depth x).bind fun m2=>some (bothP m1 m2)
def implP (c v:Prd):Prd:=fun depth x=>(c depth x).bind fun m1=>(v depth x).bind fun m2=>some (nodeP 7 ⟨#[]⟩ 0 0 [m1,m2])
def noneP (c v:Prd):Prd:=fun depth x=>(c depth x).bind fun m1=>(v depth x).bind fun m2=>some (nodeP 7 ⟨#[]⟩ 0 0 [m1,notP m2])
def exceptP (c d v:Prd):Prd:=fun depth x=>(c depth x).bind fun m1=>(d depth x).bind fun m2=>(v depth x).bind fun m5=>some (nodeP 7 ⟨#[]⟩ 0 0 [bothP m1 (notP m2),m5])
def numTm (n:Int):Tm:=⟨4,⟨#[]⟩,n,sNumber⟩
def conTm (name sort:ByteArray):Tm:=⟨2,name,0,sort⟩
def sortOfP (cs:List S105) (x:ByteArray):Option ByteArray:=(cs.find? fun c=>c.f0.toList == x.toList).map (·.f1)
def sortP (ps:List S107):Nat→S30→Option ByteArray
 |0,_=>none
 |n+1,t=>if isF t bNoun=true then (predP ps (kidOf t 0).f0).map fun p=>rdOf ByteArray.empty p.f1 0 else if isF t bAdj=true then sortP ps n (kidOf t 1)else sortP ps n (kidOf t 0)
mutual
def nounP (s:Sg):Nat→S30→Option Prd
 |0,_=>none
 |n+1,t=>if isF t bNoun=true then (predP s.ps (kidOf t 0).f0).map fun _=>fun depth x=>atomP s.ps (kidOf t 0).f0 depth [x]
  else if isF t bAdj=true then (predP s.ps (kidOf t 0).f0).bind fun _=>(nounP s n (kidOf t 1)).map fun c=>fun depth x=>(atomP s.ps (kidOf t 0).f0 depth [x]).bind fun m1=>(c depth x).bind fun m2=>some (bothP m1 m2)
  else (nounP s n (kidOf t 0)).bind fun c=>(verbP s n (kidOf t 1)).map fun v=>joinP c v
def verbP (s:Sg):Nat→S30→Option Prd
 |0,_=>none
 |n+1,t=>if isF t bAndVP=true then (verbP s n (kidOf t 0)).bind fun v=>(verbP s n (kidOf t 1)).map fun w=>joinP v w
  else (predP s.ps (kidOf t 0).f0).map fun _=>if isF t bAct=true then fun depth x=>atomP s.ps (kidOf t 0).f0 depth [x]
   else if isF t bCost=true then fun depth x=>atomP s.ps (kidOf t 0).f0 depth [x,numTm (rd t.f1 0)]
   else if isF t bDo=true then fun depth x=>applyP s n (kidOf t 1) depth (fun d y=>atomP s.ps (kidOf t 0).f0 d [x,y])
   else fun depth x=>applyP s n (kidOf t 1) depth (fun d y=>applyP s n (kidOf t 2) d (fun d2 z=>atomP s.ps (kidOf t 0).f0 d2 [x,y,z]))
def applyP (s:Sg):Nat→S30→Int→Prd→Option S70
 |0,_,_,_=>none
 |n+1,t,depth,f=>if isF t bName=true then (sortOfP s.cs (kidOf t 0).f0).bind fun sort=>f depth (conTm (kidOf t 0).f0 sort)
  else if isF t bBoth=true then (applyP s n (kidOf t 0) depth f).bind fun a=>(applyP s n (kidOf t 1) depth f).bind fun b=>some (bothP a b)
  else (nounP s n (kidOf t 0)).bind fun c=>(sortP s.ps n (kidOf t 0)).bind fun sort =>
   if isF t bSome=true then quantP s.ss 9 sort depth (joinP c f)
   else if isF t bNo=true then quantP s.ss 8 sort depth (noneP c f)
   else if isF t bExc=true then (nounP s n (kidOf t 1)).bind fun d=>quantP s.ss 8 sort depth (exceptP c d f)
   else quantP s.ss 8 sort depth (implP c f)
end
structure TreeV (w:World) (t:S30) (A1:Option Addr) (c1:Nat) (A2:Option Addr) (c2:Nat):Prop where
 l1:t.f1.length≤c1
 v:(Kd.int .i64).C w A1 t.f1.length t.f1
 l2:t.f2.length≤c2
 k:k30.C w A2 t.f2.length t.f2
theorem TreeV.below {w w1:World} {t:S30} {A1:Option Addr} {c1:Nat} {A2:Option Addr} {c2:Nat} (h:TreeV w t A1 c1 A2 c2) (hB:Below w.heap.size w w1):TreeV w1 t A1 c1 A2 c2 :=
 ⟨h.l1,Kd.C_below h.v hB,h.l2,Kd.C_below h.k hB⟩
def PrdRet (w:World) (ok:Nat→Prop) (r:Option Prd) (e:Ending) (w' :World):Prop:=Below w.heap.size w w' ∧match r with
 |some f=>∃v,e= .returned v∧PrdV w' (fun k=>ok k∨w.heap.size≤k) v f
 |none=>e= .panicked failV
theorem PrdRet.yes {w w' :World} {ok:Nat→Prop} {f:Prd} {v:Value} (hB:Below w.heap.size w w') (h:PrdV w' (fun k=>ok k∨w.heap.size≤k) v f):PrdRet w ok (some f) (.returned v) w' :=⟨hB,v,rfl,h⟩
theorem PrdRet.no {w w' :World} {ok:Nat→Prop} (hB:Below w.heap.size w w'):PrdRet w ok none (.panicked failV) w' :=⟨hB,rfl⟩
def cS:ByteArray:=⟨#[83]⟩
def cNP:ByteArray:=⟨#[78,80]⟩
def cCN:ByteArray:=⟨#[67,78]⟩
def cVP:ByteArray:=⟨#[86,80]⟩
def cN:ByteArray:=⟨#[78]⟩
def cA:ByteArray:=⟨#[65]⟩
def cV1:ByteArray:=⟨#[86,49]⟩
def cV2:ByteArray:=⟨#[86,50]⟩
def cV3:ByteArray:=⟨#[86,51]⟩
def cVQ:ByteArray:=⟨#[86,81]⟩
def cPN:ByteArray:=⟨#[80,78]⟩
def nAct:ByteArray:=⟨#[65,99,116]⟩
def nAdj:ByteArray:=⟨#[65,100,106]⟩
def nAlso:ByteArray:=⟨#[65,108,115,111]⟩
def nAnd:ByteArray:=⟨#[65,110,100]⟩
def nAndVP:ByteArray:=⟨#[65,110,100,86,80]⟩
def nAssert:ByteArray:=⟨#[65,115,115,101,114,116]⟩
def nBoth:ByteArray:=⟨#[66,111,116,104]⟩
def nCost:ByteArray:=⟨#[67,111,115,116]⟩
def nDo:ByteArray:=⟨#[68,111]⟩
def nDuring:ByteArray:=⟨#[68,117,114,105,110,103]⟩
def nEvery:ByteArray:=⟨#[69,118,101,114,121]⟩
def nEveryExcept:ByteArray:=⟨#[69,118,101,114,121,69,120,99,101,112,116]⟩
def nGive:ByteArray:=⟨#[71,105,118,101]⟩
def nIf:ByteArray:=⟨#[73,102]⟩
def nIt:ByteArray:=⟨#[73,116]⟩
def nMay:ByteArray:=⟨#[77,97,121]⟩
def nMust:ByteArray:=⟨#[77,117,115,116]⟩
def nMustNot:ByteArray:=⟨#[77,117,115,116,78,111,116]⟩
def nName:ByteArray:=⟨#[78,97,109,101]⟩
def nNo:ByteArray:=⟨#[78,111]⟩
def nNoun:ByteArray:=⟨#[78,111,117,110]⟩
def nOr:ByteArray:=⟨#[79,114]⟩
def nPlease:ByteArray:=⟨#[80,108,101,97,115,101]⟩
def nSince:ByteArray:=⟨#[83,105,110,99,101]⟩
def nSome:ByteArray:=⟨#[83,111,109,101]⟩
def nThey:ByteArray:=⟨#[84,104,101,121]⟩
def nUntil:ByteArray:=⟨#[85,110,116,105,108]⟩
def nWho:ByteArray:=⟨#[87,104,111]⟩
theorem ba_ext {x y:ByteArray} (h:x.data.toList=y.data.toList):x=y:=by
 cases x;cases y
 simp only at h
 congr 1
 exact Array.ext' h
theorem fnOf_some {l:List S160} {x:ByteArray} {g:S160} (h:fnOf l x=some g):g∈l∧g.f0=x:=by
 unfold fnOf at h
 exact ⟨List.mem_of_find?_eq_some h,ba_ext (of_decide_eq_true (List.find?_some (p:=fun f:S160=>decide (f.f0.data.toList=x.data.toList)) h))⟩
theorem formed_open {t:S30} {cat:ByteArray} (hc:isCat cat=true) (h:formedP structL t cat=true):∃g∈structL,g.f0=t.f0∧(g.f2.toList == cat.toList)=true∧g.f1.length=t.f2.length∧g.f3=(t.f1.length:Int)∧t.f1.all valOk=true∧formedL structL t.f2 g.f1=true:=by
 rw[formedP_cat hc]at h
 cases hf:fnOf structL t.f0 with
 |none=>rw[hf]at h;cases h
 |some g =>
  rw[hf]at h
  simp only[Bool.and_eq_true]at h
  obtain ⟨h1,h2,h3⟩:=h
  obtain ⟨q1,q2,q3⟩:=headFits_eq h1
  obtain ⟨m1,m2⟩:=fnOf_some hf
  exact ⟨g,m1,m2,q1,q2,q3,h2,h3⟩
theorem kids_1 {l:List S160} {ks:List S30} {a:ByteArray} (hl:ks.length=1) (h:formedL l ks [a]=true):formedP l (ks.getD 0 z30) a=true:=by
 match ks,hl with
 | [x],_=>simpa[formedL]using h
theorem kids_2 {l:List S160} {ks:List S30} {a b:ByteArray} (hl:ks.length=2) (h:formedL l ks [a,b]=true):formedP l (ks.getD 0 z30) a=true∧formedP l (ks.getD 1 z30) b=true:=by
 match ks,hl with
 | [x,y],_=>simpa[formedL]using h
theorem kids_3 {l:List S160} {ks:List S30} {a b c:ByteArray} (hl:ks.length=3) (h:formedL l ks [a,b,c]=true):formedP l (ks.getD 0 z30) a=true∧formedP l (ks.getD 1 z30) b=true∧formedP l (ks.getD 2 z30) c=true:=by
 match ks,hl with
 | [x,y,z],_=>simpa[formedL]using h
theorem fns_CN:structL.all (fun g=> !(g.f2.toList == cCN.toList) || (decide (g.f0=nNoun) && decide (g.f1=[cN]) && decide (g.f3=0)) || (decide (g.f0=nAdj) && decide (g.f1=[cA,cCN]) && decide (g.f3=0)) || (decide (g.f0=nWho) && decide (g.f1=[cCN,cVP]) && decide (g.f3=0)))=true:=by decide +kernel
theorem isCat_CN:isCat cCN=true:=by decide +kernel
theorem shape_CN {t:S30} (h:formedP structL t cCN=true):t.f1.all valOk=true∧((t.f0=nNoun∧t.f2.length=1∧t.f1.length=0∧formedP structL (kidOf t 0) cN=true)∨(t.f0=nAdj∧t.f2.length=2∧t.f1.length=0∧formedP structL (kidOf t 0) cA=true∧formedP structL (kidOf t 1) cCN=true)∨(t.f0=nWho∧t.f2.length=2∧t.f1.length=0∧formedP structL (kidOf t 0) cCN=true∧formedP structL (kidOf t 1) cVP=true)):=by
 obtain ⟨g,hm,h0,h2,hl,hv,hval,hk⟩:=formed_open isCat_CN h
 refine ⟨hval,?_⟩
 have hq:=List.all_eq_true.1 fns_CN g hm
 simp only[h2,Bool.not_true,Bool.false_or,Bool.or_eq_true,Bool.and_eq_true,decide_eq_true_eq]at hq
 rw[h0]at hq
 rcases hq with (⟨⟨e0,e1⟩,e3⟩ | ⟨⟨e0,e1⟩,e3⟩) | ⟨⟨e0,e1⟩,e3⟩
 ·rw[e1]at hk hl
  have hl2:t.f2.length=1:=by simpa using hl.symm
  exact .inl ⟨e0,hl2,by rw[e3]at hv;omega,kids_1 hl2 hk⟩
 ·rw[e1]at hk hl
  have hl2:t.f2.length=2:=by simpa using hl.symm
  exact .inr (.inl ⟨e0,hl2,by rw[e3]at hv;omega,(kids_2 hl2 hk).1,(kids_2 hl2 hk).2⟩)
 ·rw[e1]at hk hl
  have hl2:t.f2.length=2:=by simpa using hl.symm
  exact .inr (.inr (⟨e0,hl2,by rw[e3]at hv;omega,(kids_2 hl2 hk).1,(kids_2 hl2 hk).2⟩))
theorem fns_VP:structL.all (fun g=> !(g.f2.toList == cVP.toList) || (decide (g.f0=nAct) && decide (g.f1=[cV1]) && decide (g.f3=0)) || (decide (g.f0=nDo) && decide (g.f1=[cV2,cNP]) && decide (g.f3=0)) || (decide (g.f0=nGive) && decide (g.f1=[cV3,cNP,cNP]) && decide (g.f3=0)) || (decide (g.f0=nCost) && decide (g.f1=[cVQ]) && decide (g.f3=1)) || (decide (g.f0=nAndVP) && decide (g.f1=[cVP,cVP]) && decide (g.f3=0)))=true:=by decide +kernel
theorem isCat_VP:isCat cVP=true:=by decide +kernel
theorem shape_VP {t:S30} (h:formedP structL t cVP=true):t.f1.all valOk=true∧((t.f0=nAct∧t.f2.length=1∧t.f1.length=0∧formedP structL (kidOf t 0) cV1=true)∨(t.f0=nDo∧t.f2.length=2∧t.f1.length=0∧formedP structL (kidOf t 0) cV2=true∧formedP structL (kidOf t 1) cNP=true)∨(t.f0=nGive∧t.f2.length=3∧t.f1.length=0∧formedP structL (kidOf t 0) cV3=true∧formedP structL (kidOf t 1) cNP=true∧formedP structL (kidOf t 2) cNP=true)∨(t.f0=nCost∧t.f2.length=1∧t.f1.length=1∧formedP structL (kidOf t 0) cVQ=true)∨(t.f0=nAndVP∧t.f2.length=2∧t.f1.length=0∧formedP structL (kidOf t 0) cVP=true∧formedP structL (kidOf t 1) cVP=true)):=by
 obtain ⟨g,hm,h0,h2,hl,hv,hval,hk⟩:=formed_open isCat_VP h
 refine ⟨hval,?_⟩
 have hq:=List.all_eq_true.1 fns_VP g hm
 simp only[h2,Bool.not_true,Bool.false_or,Bool.or_eq_true,Bool.and_eq_true,decide_eq_true_eq]at hq
 rw[h0]at hq
 rcases hq with (((⟨⟨e0,e1⟩,e3⟩ | ⟨⟨e0,e1⟩,e3⟩) | ⟨⟨e0,e1⟩,e3⟩) | ⟨⟨e0,e1⟩,e3⟩) | ⟨⟨e0,e1⟩,e3⟩
 ·rw[e1]at hk hl
  have hl2:t.f2.length=1:=by simpa using hl.symm
  exact .inl ⟨e0,hl2,by rw[e3]at hv;omega,kids_1 hl2 hk⟩
 ·rw[e1]at hk hl
  have hl2:t.f2.length=2:=by simpa using hl.symm
  exact .inr (.inl ⟨e0,hl2,by rw[e3]at hv;omega,(kids_2 hl2 hk).1,(kids_2 hl2 hk).2⟩)
 ·rw[e1]at hk hl
  have hl2:t.f2.length=3:=by simpa using hl.symm
  exact .inr (.inr (.inl ⟨e0,hl2,by rw[e3]at hv;omega,(kids_3 hl2 hk).1,(kids_3 hl2 hk).2.1,(kids_3 hl2 hk).2.2⟩))
 ·rw[e1]at hk hl
  have hl2:t.f2.length=1:=by simpa using hl.symm
  exact .inr (.inr (.inr (.inl ⟨e0,hl2,by rw[e3]at hv;omega,kids_1 hl2 hk⟩)))
 ·rw[e1]at hk hl
  have hl2:t.f2.length=2:=by simpa using hl.symm
  exact .inr (.inr (.inr (.inr (⟨e0,hl2,by rw[e3]at hv;omega,(kids_2 hl2 hk).1,(kids_2 hl2 hk).2⟩))))
theorem fns_NP:structL.all (fun g=> !(g.f2.toList == cNP.toList) || (decide (g.f0=nName) && decide (g.f1=[cPN]) && decide (g.f3=0)) || (decide (g.f0=nEvery) && decide (g.f1=[cCN]) && decide (g.f3=0)) || (decide (g.f0=nSome) && decide (g.f1=[cCN]) && decide (g.f3=0)) || (decide (g.f0=nNo) && decide (g.f1=[cCN]) && decide (g.f3=0)) || (decide (g.f0=nEveryExcept) && decide (g.f1=[cCN,cCN]) && decide (g.f3=0)) || (decide (g.f0=nBoth) && decide (g.f1=[cNP,cNP]) && decide (g.f3=0)) || (decide (g.f0=nIt) && decide (g.f1=[]) && decide (g.f3=0)) || (decide (g.f0=nThey) && decide (g.f1=[]) && decide (g.f3=0)))=true:=by decide +kernel
theorem isCat_NP:isCat cNP=true:=by decide +kernel
theorem shape_NP {t:S30} (h:formedP structL t cNP=true):t.f1.all valOk=true∧((t.f0=nName∧t.f2.length=1∧t.f1.length=0∧formedP structL (kidOf t 0) cPN=true)∨(t.f0=nEvery∧t.f2.length=1∧t.f1.length=0∧formedP structL (kidOf t 0) cCN=true)∨(t.f0=nSome∧t.f2.length=1∧t.f1.length=0∧formedP structL (kidOf t 0) cCN=true)∨(t.f0=nNo∧t.f2.length=1∧t.f1.length=0∧formedP structL (kidOf t 0) cCN=true)∨(t.f0=nEveryExcept∧t.f2.length=2∧t.f1.length=0∧formedP structL (kidOf t 0) cCN=true∧formedP structL (kidOf t 1) cCN=true)∨(t.f0=nBoth∧t.f2.length=2∧t.f1.length=0∧formedP structL (kidOf t 0) cNP=true∧formedP structL (kidOf t 1) cNP=true)∨(t.f0=nIt∧t.f2.length=0∧t.f1.length=0)∨(t.f0=nThey∧t.f2.length=0∧t.f1.length=0)):=by
 obtain ⟨g,hm,h0,h2,hl,hv,hval,hk⟩:=formed_open isCat_NP h
 refine ⟨hval,?_⟩
 have hq:=List.all_eq_true.1 fns_NP g hm
 simp only[h2,Bool.not_true,Bool.false_or,Bool.or_eq_true,Bool.and_eq_true,decide_eq_true_eq]at hq
 rw[h0]at hq
 rcases hq with ((((((⟨⟨e0,e1⟩,e3⟩ | ⟨⟨e0,e1⟩,e3⟩) | ⟨⟨e0,e1⟩,e3⟩) | ⟨⟨e0,e1⟩,e3⟩) | ⟨⟨e0,e1⟩,e3⟩) | ⟨⟨e0,e1⟩,e3⟩) | ⟨⟨e0,e1⟩,e3⟩) | ⟨⟨e0,e1⟩,e3⟩
 ·rw[e1]at hk hl
  have hl2:t.f2.length=1:=by simpa using hl.symm
  exact .inl ⟨e0,hl2,by rw[e3]at hv;omega,kids_1 hl2 hk⟩
 ·rw[e1]at hk hl
  have hl2:t.f2.length=1:=by simpa using hl.symm
  exact .inr (.inl ⟨e0,hl2,by rw[e3]at hv;omega,kids_1 hl2 hk⟩)
 ·rw[e1]at hk hl
  have hl2:t.f2.length=1:=by simpa using hl.symm
  exact .inr (.inr (.inl ⟨e0,hl2,by rw[e3]at hv;omega,kids_1 hl2 hk⟩))
 ·rw[e1]at hk hl
  have hl2:t.f2.length=1:=by simpa using hl.symm
  exact .inr (.inr (.inr (.inl ⟨e0,hl2,by rw[e3]at hv;omega,kids_1 hl2 hk⟩)))
 ·rw[e1]at hk hl
  have hl2:t.f2.length=2:=by simpa using hl.symm
  exact .inr (.inr (.inr (.inr (.inl ⟨e0,hl2,by rw[e3]at hv;omega,(kids_2 hl2 hk).1,(kids_2 hl2 hk).2⟩))))
 ·rw[e1]at hk hl
  have hl2:t.f2.length=2:=by simpa using hl.symm
  exact .inr (.inr (.inr (.inr (.inr (.inl ⟨e0,hl2,by rw[e3]at hv;omega,(kids_2 hl2 hk).1,(kids_2 hl2 hk).2⟩)))))
 ·rw[e1]at hl
  have hl2:t.f2.length=0:=by simpa using hl.symm
  exact .inr (.inr (.inr (.inr (.inr (.inr (.inl ⟨e0,hl2,by rw[e3]at hv;omega⟩))))))
 ·rw[e1]at hl
  have hl2:t.f2.length=0:=by simpa using hl.symm
  exact .inr (.inr (.inr (.inr (.inr (.inr (.inr (⟨e0,hl2,by rw[e3]at hv;omega⟩)))))))
theorem fns_S:structL.all (fun g=> !(g.f2.toList == cS.toList) || (decide (g.f0=nAssert) && decide (g.f1=[cNP,cVP]) && decide (g.f3=0)) || (decide (g.f0=nMust) && decide (g.f1=[cNP,cVP]) && decide (g.f3=0)) || (decide (g.f0=nMustNot) && decide (g.f1=[cNP,cVP]) && decide (g.f3=0)) || (decide (g.f0=nMay) && decide (g.f1=[cNP,cVP]) && decide (g.f3=0)) || (decide (g.f0=nDuring) && decide (g.f1=[cS]) && decide (g.f3=2)) || (decide (g.f0=nSince) && decide (g.f1=[cS]) && decide (g.f3=1)) || (decide (g.f0=nUntil) && decide (g.f1=[cS]) && decide (g.f3=1)) || (decide (g.f0=nAnd) && decide (g.f1=[cS,cS]) && decide (g.f3=0)) || (decide (g.f0=nOr) && decide (g.f1=[cS,cS]) && decide (g.f3=0)) || (decide (g.f0=nIf) && decide (g.f1=[cS,cS]) && decide (g.f3=0)) || (decide (g.f0=nAlso) && decide (g.f1=[cS,cNP]) && decide (g.f3=0)) || (decide (g.f0=nPlease) && decide (g.f1=[cS]) && decide (g.f3=0)))=true:=by decide +kernel
theorem isCat_S:isCat cS=true:=by decide +kernel
theorem shape_S {t:S30} (h:formedP structL t cS=true):t.f1.all valOk=true∧((t.f0=nAssert∧t.f2.length=2∧t.f1.length=0∧formedP structL (kidOf t 0) cNP=true∧formedP structL (kidOf t 1) cVP=true)∨(t.f0=nMust∧t.f2.length=2∧t.f1.length=0∧formedP structL (kidOf t 0) cNP=true∧formedP structL (kidOf t 1) cVP=true)∨(t.f0=nMustNot∧t.f2.length=2∧t.f1.length=0∧formedP structL (kidOf t 0) cNP=true∧formedP structL (kidOf t 1) cVP=true)∨(t.f0=nMay∧t.f2.length=2∧t.f1.length=0∧formedP structL (kidOf t 0) cNP=true∧formedP structL (kidOf t 1) cVP=true)∨(t.f0=nDuring∧t.f2.length=1∧t.f1.length=2∧formedP structL (kidOf t 0) cS=true)∨(t.f0=nSince∧t.f2.length=1∧t.f1.length=1∧formedP structL (kidOf t 0) cS=true)∨(t.f0=nUntil∧t.f2.length=1∧t.f1.length=1∧formedP structL (kidOf t 0) cS=true)∨(t.f0=nAnd∧t.f2.length=2∧t.f1.length=0∧formedP structL (kidOf t 0) cS=true∧formedP structL (kidOf t 1) cS=true)∨(t.f0=nOr∧t.f2.length=2∧t.f1.length=0∧formedP structL (kidOf t 0) cS=true∧formedP structL (kidOf t 1) cS=true)∨(t.f0=nIf∧t.f2.length=2∧t.f1.length=0∧formedP structL (kidOf t 0) cS=true∧formedP structL (kidOf t 1) cS=true)∨(t.f0=nAlso∧t.f2.length=2∧t.f1.length=0∧formedP structL (kidOf t 0) cS=true∧formedP structL (kidOf t 1) cNP=true)∨(t.f0=nPlease∧t.f2.length=1∧t.f1.length=0∧formedP structL (kidOf t 0) cS=true)):=by
 obtain ⟨g,hm,h0,h2,hl,hv,hval,hk⟩:=formed_open isCat_S h
 refine ⟨hval,?_⟩
 have hq:=List.all_eq_true.1 fns_S g hm
 simp only[h2,Bool.not_true,Bool.false_or,Bool.or_eq_true,Bool.and_eq_true,decide_eq_true_eq]at hq
 rw[h0]at hq
 rcases hq with ((((((((((⟨⟨e0,e1⟩,e3⟩ | ⟨⟨e0,e1⟩,e3⟩) | ⟨⟨e0,e1⟩,e3⟩) | ⟨⟨e0,e1⟩,e3⟩) | ⟨⟨e0,e1⟩,e3⟩) | ⟨⟨e0,e1⟩,e3⟩) | ⟨⟨e0,e1⟩,e3⟩) | ⟨⟨e0,e1⟩,e3⟩) | ⟨⟨e0,e1⟩,e3⟩) | ⟨⟨e0,e1⟩,e3⟩) | ⟨⟨e0,e1⟩,e3⟩) | ⟨⟨e0,e1⟩,e3⟩
 ·rw[e1]at hk hl
  have hl2:t.f2.length=2:=by simpa using hl.symm
  exact .inl ⟨e0,hl2,by rw[e3]at hv;omega,(kids_2 hl2 hk).1,(kids_2 hl2 hk).2⟩
 ·rw[e1]at hk hl
  have hl2:t.f2.length=2:=by simpa using hl.symm
  exact .inr (.inl ⟨e0,hl2,by rw[e3]at hv;omega,(kids_2 hl2 hk).1,(kids_2 hl2 hk).2⟩)
 ·rw[e1]at hk hl
  have hl2:t.f2.length=2:=by simpa using hl.symm
  exact .inr (.inr (.inl ⟨e0,hl2,by rw[e3]at hv;omega,(kids_2 hl2 hk).1,(kids_2 hl2 hk).2⟩))
 ·rw[e1]at hk hl
  have hl2:t.f2.length=2:=by simpa using hl.symm
  exact .inr (.inr (.inr (.inl ⟨e0,hl2,by rw[e3]at hv;omega,(kids_2 hl2 hk).1,(kids_2 hl2 hk).2⟩)))
 ·rw[e1]at hk hl
  have hl2:t.f2.length=1:=by simpa using hl.symm
  exact .inr (.inr (.inr (.inr (.inl ⟨e0,hl2,by rw[e3]at hv;omega,kids_1 hl2 hk⟩))))
 ·rw[e1]at hk hl
  have hl2:t.f2.length=1:=by simpa using hl.symm
  exact .inr (.inr (.inr (.inr (.inr (.inl ⟨e0,hl2,by rw[e3]at hv;omega,kids_1 hl2 hk⟩)))))
 ·rw[e1]at hk hl
  have hl2:t.f2.length=1:=by simpa using hl.symm
  exact .inr (.inr (.inr (.inr (.inr (.inr (.inl ⟨e0,hl2,by rw[e3]at hv;omega,kids_1 hl2 hk⟩))))))
 ·rw[e1]at hk hl
  have hl2:t.f2.length=2:=by simpa using hl.symm
  exact .inr (.inr (.inr (.inr (.inr (.inr (.inr (.inl ⟨e0,hl2,by rw[e3]at hv;omega,(kids_2 hl2 hk).1,(kids_2 hl2 hk).2⟩)))))))
 ·rw[e1]at hk hl
  have hl2:t.f2.length=2:=by simpa using hl.symm
  exact .inr (.inr (.inr (.inr (.inr (.inr (.inr (.inr (.inl ⟨e0,hl2,by rw[e3]at hv;omega,(kids_2 hl2 hk).1,(kids_2 hl2 hk).2⟩))))))))
 ·rw[e1]at hk hl
  have hl2:t.f2.length=2:=by simpa using hl.symm
  exact .inr (.inr (.inr (.inr (.inr (.inr (.inr (.inr (.inr (.inl ⟨e0,hl2,by rw[e3]at hv;omega,(kids_2 hl2 hk).1,(kids_2 hl2 hk).2⟩)))))))))
 ·rw[e1]at hk hl
  have hl2:t.f2.length=2:=by simpa using hl.symm
  exact .inr (.inr (.inr (.inr (.inr (.inr (.inr (.inr (.inr (.inr (.inl ⟨e0,hl2,by rw[e3]at hv;omega,(kids_2 hl2 hk).1,(kids_2 hl2 hk).2⟩))))))))))
 ·rw[e1]at hk hl
  have hl2:t.f2.length=1:=by simpa using hl.symm
  exact .inr (.inr (.inr (.inr (.inr (.inr (.inr (.inr (.inr (.inr (.inr (⟨e0,hl2,by rw[e3]at hv;omega,kids_1 hl2 hk⟩)))))))))))
theorem nodes_kid {t:S30} {n i:Nat} (hn:nodes t≤n+1) (hi:i<t.f2.length):nodes (kidOf t i)≤n:=by
 have hm:∀(l:List S30) (x:S30),x∈l→nodes x≤nodesL l:=by
  intro l x hx
  induction l with
  |nil=>cases hx
  |cons y r ih =>
   simp only[nodesL]
   rcases List.mem_cons.1 hx with rfl | hx
   ·omega
   ·have:=ih hx;omega
 have h1:kidOf t i∈t.f2:=by unfold kidOf;rw[List.getD_eq_getElem?_getD,List.getElem?_eq_getElem hi];exact List.getElem_mem _
 have:=hm _ _ h1
 rw[nodes_eq]at hn
 omega
def SortRet (w:World) (r:Option ByteArray) (e:Ending) (w' :World):Prop:=Below w.heap.size w w' ∧match r with
 |some x=>e= .returned (.string x)
 |none=>e= .panicked failV
theorem SortRet.yes {w w' :World} {x:ByteArray} (hB:Below w.heap.size w w'):SortRet w (some x) (.returned (.string x)) w' :=⟨hB,rfl⟩
theorem SortRet.no {w w' :World} (hB:Below w.heap.size w w'):SortRet w none (.panicked failV) w' :=⟨hB,rfl⟩
set_option maxHeartbeats 1000000 in
set_option maxRecDepth 100000 in
theorem sort_calls:∀(n:Nat) (t:S30),nodes t≤n→formedP structL t cCN=true→∀(w:World) (bp mb:Nat) (s:Sg) (A1:Option Addr) (c1:Nat) (A2:Option Addr) (c2:Nat),Bld w bp mb s→TreeV w t A1 c1 A2 c2→(∀p∈s.ps,1≤p.f1.length) →
  Calls Tryz.prog 43 #[.pointer (some ⟨bp,0,none⟩),.agg #[.string t.f0,.slice A1 t.f1.length c1,.slice A2 t.f2.length c2]] w (SortRet w (sortP s.ps n t))
 |0,t,hn,_=>absurd hn (by have:=nodes_eq t;omega)
 |n+1,t,hn,hf=>fun w bp mb s A1 c1 A2 c2 hb tv hp=>by
  obtain ⟨_,hs⟩:=shape_CN hf
  rcases hs with ⟨e0,hl,hz,_⟩ | ⟨e0,hl,hz,_,hf1⟩ | ⟨e0,hl,hz,hf1,_⟩
  ·obtain ⟨ad,B1,d1,B2,d2,e,y0,y1,y2,hl1,hi1,hl2,hi2⟩:=at_T30 tv.k 0 (by omega) (by omega)
   subst e
   have ha0:ad.add ((0:Int).toNat*3)=ad:=Addr.add_zero' ad
   rw[ha0]at y0 y1 y2
   have hki:0<t.f2.length:=by omega
   clear ha0
   have hkd:TreeV w (kidOf t 0) B1 d1 B2 d2:=⟨hl1,hi1,hl2,hi2⟩
   clear hl1 hi1 hl2 hi2
   replace y0:w.cell? _=some (.string (kidOf t 0).f0):=y0
   replace y1:w.cell? _=some (.slice B1 (kidOf t 0).f1.length d1):=y1
   replace y2:w.cell? _=some (.slice B2 (kidOf t 0).f2.length d2):=y2
   have q0:(t.f0.toList == ([78,111,117,110]:List UInt8))=true:=by rw[e0];decide +kernel
   have hB:=below_alloc (Below.refl w.heap.size w) (.cells #[.string t.f0,.slice A1 t.f1.length c1,.slice (some ad) t.f2.length c2] 30)
   have HB:=Aside0.mk hB
   replace y0:=pw_cell_below hB y0
   replace y1:=pw_cell_below hB y1
   replace y2:=pw_cell_below hB y2
   have C:=Aside0.mk (known_calls _ bp mb s (hb.below hB) (kidOf t 0).f0 B1 (kidOf t 0).f1.length d1 B2 (kidOf t 0).f2.length d2)
   have HS:Aside0 (sortP s.ps (n+1) t=(predP s.ps (kidOf t 0).f0).map fun p=>rdOf ByteArray.empty p.f1 0):=⟨by rw[sortP,isF,show (t.f0.toList == bNoun)=true from q0];rfl⟩
   rw[HS.out]
   clear hB hb tv hkd hf hn HS
   clear e0 hl hz
   cases hpr:predP s.ps (kidOf t 0).f0 with
   |none =>
    rw[hpr]at C
    clear hpr
    generalize kidOf t 0=kid at *
    go_enter Tryz.func43,Tryz.ntmps43
    go_wp2_with (go_at_call 81;refine C.out.mono ?_;rintro e w2 ⟨hB2,rfl⟩;have HB2:=Aside0.mk (below_step HB.out hB2);clear hB2)
    exact ⟨rfl,SortRet.no HB2.out⟩
   |some p =>
    rw[hpr]at C
    have h1:=hp p (predP_mem hpr)
    clear hpr
    generalize kidOf t 0=kid at *
    go_enter Tryz.func43,Tryz.ntmps43
    go_wp2_with (go_at_call 81;refine C.out.mono ?_;rintro e w2 ⟨hB2,B,rfl,hF⟩;have HB2:=Aside0.mk (below_step HB.out hB2);obtain ⟨ag,e,hx⟩:=Kd.at_string (Kd.F_now hF) 0 (Int.le_refl _) (by omega);subst e;have hag:ag.add (0:Int).toNat=ag:=Addr.add_zero' ag;rw[hag]at hx;have hfd:∀W,(Instr.field 107 (.agg #[.string p.f0,.slice (some ag) p.f1.length p.f1.length]) 1).run Tryz.prog W= .ok (.slice (some ag) p.f1.length p.f1.length) W:=(fun W=>by kernel_rfl);clear hB2 hF)
    go_ret
    exact SortRet.yes HB2.out
  ·obtain ⟨ad,B1,d1,B2,d2,e,y0,y1,y2,hl1,hi1,hl2,hi2⟩:=at_T30 tv.k 1 (by omega) (by omega)
   subst e
   have ha0:ad.add ((1:Int).toNat*3)=⟨ad.block,ad.off+3,none⟩:=(add_field ad 0 3 (by omega)).trans (by rw[Addr.add_zero'])
   rw[ha0]at y0 y1 y2
   simp only[Nat.add_assoc,Nat.reduceAdd]at y1 y2
   have hki:(1:Int)<(t.f2.length:Int):=by omega
   clear ha0
   have hkd:TreeV w (kidOf t 1) B1 d1 B2 d2:=⟨hl1,hi1,hl2,hi2⟩
   clear hl1 hi1 hl2 hi2
   replace y0:w.cell? _=some (.string (kidOf t 1).f0):=y0
   replace y1:w.cell? _=some (.slice B1 (kidOf t 1).f1.length d1):=y1
   replace y2:w.cell? _=some (.slice B2 (kidOf t 1).f2.length d2):=y2
   have q0:(t.f0.toList == ([78,111,117,110]:List UInt8))=false:=by rw[e0];decide +kernel
   have q1:(t.f0.toList == ([65,100,106]:List UInt8))=true:=by rw[e0];decide +kernel
   have hB:=below_alloc (Below.refl w.heap.size w) (.cells #[.string t.f0,.slice A1 t.f1.length c1,.slice (some ad) t.f2.length c2] 30)
   have HB:=Aside0.mk hB
   replace y0:=pw_cell_below hB y0
   replace y1:=pw_cell_below hB y1
   replace y2:=pw_cell_below hB y2
   have C:=Aside0.mk (sort_calls n (kidOf t 1) (nodes_kid hn (by omega)) hf1 _ bp mb s B1 d1 B2 d2 (hb.below hB) (hkd.below hB) hp)
   have HS:Aside0 (sortP s.ps (n+1) t=sortP s.ps n (kidOf t 1)):=⟨by rw[sortP,isF,isF,show (t.f0.toList == bNoun)=false from q0,show (t.f0.toList == bAdj)=true from q1];rfl⟩
   rw[HS.out]
   clear hB hb hp tv hkd hf hn hf1 HS
   clear e0 hl hz
   generalize sortP s.ps n (kidOf t 1)=r at *
   generalize kidOf t 1=kid at *
   cases r with
   |none =>
    go_enter Tryz.func43,Tryz.ntmps43
    go_wp2_with (go_at_call 43;refine C.out.mono ?_;rintro e w2 ⟨hB2,rfl⟩;have HB2:=Aside0.mk (below_step HB.out hB2);clear hB2)
    exact ⟨rfl,SortRet.no HB2.out⟩
   |some x =>
    go_enter Tryz.func43,Tryz.ntmps43
    go_wp2_with (go_at_call 43;refine C.out.mono ?_;rintro e w2 ⟨hB2,rfl⟩;have HB2:=Aside0.mk (below_step HB.out hB2);clear hB2)
    go_ret
    exact SortRet.yes HB2.out
  ·obtain ⟨ad,B1,d1,B2,d2,e,y0,y1,y2,hl1,hi1,hl2,hi2⟩:=at_T30 tv.k 0 (by omega) (by omega)
   subst e
   have ha0:ad.add ((0:Int).toNat*3)=ad:=Addr.add_zero' ad
   rw[ha0]at y0 y1 y2
   have hki:0<t.f2.length:=by omega
   clear ha0
   have hkd:TreeV w (kidOf t 0) B1 d1 B2 d2:=⟨hl1,hi1,hl2,hi2⟩
   clear hl1 hi1 hl2 hi2
   replace y0:w.cell? _=some (.string (kidOf t 0).f0):=y0
   replace y1:w.cell? _=some (.slice B1 (kidOf t 0).f1.length d1):=y1
   replace y2:w.cell? _=some (.slice B2 (kidOf t 0).f2.length d2):=y2
   have q0:(t.f0.toList == ([78,111,117,110]:List UInt8))=false:=by rw[e0];decide +kernel
   have q1:(t.f0.toList == ([65,100,106]:List UInt8))=false:=by rw[e0];decide +kernel
   have hB:=below_alloc (Below.refl w.heap.size w) (.cells #[.string t.f0,.slice A1 t.f1.length c1,.slice (some ad) t.f2.length c2] 30)
   have HB:=Aside0.mk hB
   replace y0:=pw_cell_below hB y0
   replace y1:=pw_cell_below hB y1
   replace y2:=pw_cell_below hB y2
   have C:=Aside0.mk (sort_calls n (kidOf t 0) (nodes_kid hn (by omega)) hf1 _ bp mb s B1 d1 B2 d2 (hb.below hB) (hkd.below hB) hp)
   have HS:Aside0 (sortP s.ps (n+1) t=sortP s.ps n (kidOf t 0)):=⟨by rw[sortP,isF,isF,show (t.f0.toList == bNoun)=false from q0,show (t.f0.toList == bAdj)=false from q1];rfl⟩
   rw[HS.out]
   clear hB hb hp tv hkd hf hn hf1 HS
   clear e0 hl hz
   generalize sortP s.ps n (kidOf t 0)=r at *
   generalize kidOf t 0=kid at *
   cases r with
   |none =>
    go_enter Tryz.func43,Tryz.ntmps43
    go_wp2_with (go_at_call 43;refine C.out.mono ?_;rintro e w2 ⟨hB2,rfl⟩;have HB2:=Aside0.mk (below_step HB.out hB2);clear hB2)
    exact ⟨rfl,SortRet.no HB2.out⟩
   |some x =>
    go_enter Tryz.func43,Tryz.ntmps43
    go_wp2_with (go_at_call 43;refine C.out.mono ?_;rintro e w2 ⟨hB2,rfl⟩;have HB2:=Aside0.mk (below_step HB.out hB2);clear hB2)
    go_ret
    exact SortRet.yes HB2.out
section
theorem TreeV.like {w w1:World} {t:S30} {A1:Option Addr} {c1:Nat} {A2:Option Addr} {c2:Nat} (h:TreeV w t A1 c1 A2 c2) (hb:∀k,k<w.heap.size→w1.heap[k]? =w.heap[k]?):TreeV w1 t A1 c1 A2 c2 :=
 ⟨h.l1,(Kd.heap_int .i64).C hb h.v,h.l2,k30_heap.C hb h.k⟩
theorem Bld.like {w w1:World} {bp mb:Nat} {s:Sg} (h:Bld w bp mb s) (hb:∀k,k<w.heap.size→w1.heap[k]? =w.heap[k]?):Bld w1 bp mb s :=
 ⟨(hb bp (blk_lt h.blk)).trans h.blk,⟨Kd.heap_string.C hb h.sig.h0,h.sig.l0,k105_heap.C hb h.sig.h1,h.sig.l1,k107_heap.C hb h.sig.h2,h.sig.l2,h.sig.b0,h.sig.b1,h.sig.b2,h.sig.m0,h.sig.m1,h.sig.m2⟩⟩
section
variable {w0 w:World} {ok:Nat→Prop}
theorem like_of {W:World} (h0:Below w0.heap.size w0 w) (ho:∀k,k<w0.heap.size→ok k) (hW:Ext w ok W):∀k,k<w0.heap.size→W.heap[k]? =w0.heap[k]? :=
 fun k hk=>(hW.block k (ho k hk) (Nat.lt_of_lt_of_le hk h0.size)).trans (h0.block k hk)
theorem fr_bld {bp mb:Nat} {s:Sg} (h:Bld w0 bp mb s) (h0:Below w0.heap.size w0 w) (ho:∀k,k<w0.heap.size→ok k):Fr w ok fun W=>Bld W bp mb s:=fun W hW=>h.like (like_of h0 ho hW)
theorem fr_box {b:Nat} {ty:TypeId} {v:Value} (h:BoxAt w b ty v) (hb:ok b):Fr w ok fun W=>BoxAt W b ty v:=fun W hW=>(hW.block b hb (blk_lt h)).trans h
theorem fr_tm {b:Nat} {x:Tm} (h:TmAt w b x) (hb:ok b):Fr w ok fun W=>TmAt W b x:=fun W hW=>(hW.block b hb (blk_lt h)).trans h
theorem fr_tree {b:Nat} {t:S30} {A1:Option Addr} {c1:Nat} {A2:Option Addr} {c2:Nat} (hbl:w.heap[b]? =some (.cells #[.string t.f0,.slice A1 t.f1.length c1,.slice A2 t.f2.length c2] 30 (0,0))) (hb:ok b) (h:TreeV w0 t A1 c1 A2 c2) (h0:Below w0.heap.size w0 w) (ho:∀k,k<w0.heap.size→ok k) :
  Fr w ok fun W=>TreeAt W b t A1 c1 A2 c2:=fun W hW=>by
 have hv:=h.like (like_of h0 ho hW)
 exact ⟨(hW.block b hb (blk_lt hbl)).trans hbl,hv.l1,hv.v,hv.l2,hv.k⟩
end
def notPro (x:ByteArray):Bool:= !decide (x=nIt) && !decide (x=nThey)
mutual
/-- No pronouns. -/
def resP:S30→Bool
 |⟨f,_,ks⟩=>notPro f && resL ks
def resL:List S30→Bool
 | []=>true
 |t::r=>resP t && resL r
end
theorem resP_eq (t:S30):resP t=(notPro t.f0 && resL t.f2):=by cases t;simp[resP]
theorem res_mem:∀(l:List S30),resL l=true→∀x∈l,resP x=true
 | [],_,x,hx=>by cases hx
 |t::r,h,x,hx=>by
  rw[resL,Bool.and_eq_true]at h
  rcases List.mem_cons.1 hx with rfl | hx
  ·exact h.1
  ·exact res_mem r h.2 x hx
theorem res_kid {t:S30} {i:Nat} (h:resP t=true) (hi:i<t.f2.length):resP (kidOf t i)=true:=by
 rw[resP_eq,Bool.and_eq_true]at h
 refine res_mem _ h.2 _ ?_
 unfold kidOf;rw[List.getD_eq_getElem?_getD,List.getElem?_eq_getElem hi];exact List.getElem_mem _
theorem res_not {t:S30} (h:resP t=true):t.f0≠nIt∧t.f0≠nThey:=by
 rw[resP_eq,Bool.and_eq_true]at h
 have h1:=h.1
 unfold notPro at h1
 rw[Bool.and_eq_true]at h1
 exact ⟨by simpa using h1.1,by simpa using h1.2⟩
def NounC (s:Sg) (n:Nat):Prop:=∀(t:S30),nodes t≤n→formedP structL t cCN=true→resP t=true→∀(w0 w:World) (bp mb:Nat) (A1:Option Addr) (c1:Nat) (A2:Option Addr) (c2:Nat),Below w0.heap.size w0 w→Bld w0 bp mb s→TreeV w0 t A1 c1 A2 c2 →
 Calls Tryz.prog 44 #[.pointer (some ⟨bp,0,none⟩),.agg #[.string t.f0,.slice A1 t.f1.length c1,.slice A2 t.f2.length c2]] w (PrdRet w (fun k=>k<w0.heap.size) (nounP s n t))
def VerbC (s:Sg) (n:Nat):Prop:=∀(t:S30),nodes t≤n→formedP structL t cVP=true→resP t=true→∀(w0 w:World) (bp mb:Nat) (A1:Option Addr) (c1:Nat) (A2:Option Addr) (c2:Nat),Below w0.heap.size w0 w→Bld w0 bp mb s→TreeV w0 t A1 c1 A2 c2 →
 Calls Tryz.prog 86 #[.pointer (some ⟨bp,0,none⟩),.agg #[.string t.f0,.slice A1 t.f1.length c1,.slice A2 t.f2.length c2]] w (PrdRet w (fun k=>k<w0.heap.size) (verbP s n t))
def ApplyN (s:Sg) (n:Nat):Prop:=∀(t:S30),nodes t≤n→formedP structL t cNP=true→resP t=true→∀(w:World) (bp mb:Nat),Bld w bp mb s→ApplyC bp t (applyP s n t) w
end
section
attribute [local go_sem] Oper.semAt_some
theorem to_frN {P:Program} {c:Code} {Q:Exit→Act→World→Prop} {T:Array Value} {w:World} (n:Nat) (hn:T.size=n) (h:∀f:Nat→Value,(∀j,f j=T.getD j undef)→c.wp P Q (frN n f) w):c.wp P Q {tmps:=T,defers:=[]} w:=by
 have e:({tmps:=T,defers:=[]}:Act)=frN n (fun j=>T.getD j undef):=by
  unfold frN
  congr 1
  apply Array.ext
  ·simp[hn]
  ·intro i h1 h2
   simp[Array.getD_eq_getD_getElem?,h1]
 rw[e]
 exact h _ (fun _=>rfl)
theorem frN47 (g:Nat→Value):frN 47 g={tmps:= #[g 0,g 1,g 2,g 3,g 4,g 5,g 6,g 7,g 8,g 9,g 10,g 11,g 12,g 13,g 14,g 15,g 16,g 17,g 18,g 19,g 20,g 21,g 22,g 23,g 24,g 25,g 26,g 27,g 28,g 29,g 30,g 31,g 32,g 33,g 34,g 35,g 36,g 37,g 38,g 39,g 40,g 41,g 42,g 43,g 44,g 45,g 46],defers:=[]}:=rfl
def Kb.pf (p:Prop):Kb:=⟨fun _ _ _=>p,fun _ _ _ _ _ h _=>h⟩
section
variable {ops:Array Oper} {Q:Exit→Act→World→Prop} {R:Act→World→Prop} {RP:World→Prop} {i:Nat} {o:Oper} {J:Act→World→Prop} {a:Act} {w:World}
theorem op_known {k1 k2:Tmp} {ts:Array TypeId} {bp mb:Nat} {s:Sg} {x:ByteArray} {A3 A4:Option Addr} {n3 c3 n4 c4:Nat} (hi:ops[i]? =some o) (hg:o.guard=none) (ho:o.op= .call {callee:= .value (.func 81),args:= #[.tmp k1,.tmp k2],argTypes:=ts}) (h1:a.tmps[k1]?.getD undef= .pointer (some ⟨bp,0,none⟩)) (h2:a.tmps[k2]?.getD undef= .agg #[.string x,.slice A3 n3 c3,.slice A4 n4 c4]) (hb:Bld w bp mb s) (had:a.defers=[]) (hp:predP s.ps x=none→∀w',Below w.heap.size w w' →RP w')
  (h:∀v w',(predP s.ps x).isSome=true→Below w.heap.size w w' →J (a.put o.dst v) w'):wpOp Tryz.prog ops (OnNP R RP) i J a w:=by
 refine op_callP hi (wanted_none hg) ?_ ((known_calls w bp mb s hb x A3 n3 c3 A4 n4 c4).mono ?_)
 ·have he:=enters_of Tryz.func81 (by kernel_rfl) rfl #[.pointer (some ⟨bp,0,none⟩),.agg #[.string x,.slice A3 n3 c3,.slice A4 n4 c4]] w
  unfold execOp
  rw[ho]
  go_simp
 ·rintro e w' hr
  cases hq:predP s.ps x with
  |none =>
   rw[hq]at hr
   obtain ⟨hb',he⟩:=hr
   exact .inr ⟨_,he,rfl,had,hp hq w' hb'⟩
  |some p =>
   rw[hq]at hr
   obtain ⟨hb',v,he,_⟩:=hr
   exact .inl ⟨_,he,h _ w' (by rw[hq];rfl) hb'⟩
theorem op_prd {f:FuncId} {args:Array Value} {r:Option Prd} {N0 N:Nat} {pr:Nat→Prop} (hi:ops[i]? =some o) (hg:o.guard=none) (hrun:(execOp a.eval o).run Tryz.prog w= .ok (.enter f args) w) (hc:Calls Tryz.prog f args w (PrdRet w (fun k=>k<N0) r)) (had:a.defers=[]) (hp:r=none→∀w',Below w.heap.size w w' →RP w') (hpr:∀k,pr k→N0≤k∧k<w.heap.size) (hN:N≤w.heap.size)
  (h:∀v w',(Kb.fn (fun k=>k<N0∨N≤k) r).In v w' pr→Below w.heap.size w w' →J (a.put o.dst v) w'):wpOp Tryz.prog ops (OnNP R RP) i J a w:=by
 refine op_callP hi (wanted_none hg) hrun (hc.mono ?_)
 rintro e w' ⟨hb,hr⟩
 cases r with
 |none=>exact .inr ⟨_,hr,rfl,had,hp rfl w' hb⟩
 |some m =>
  obtain ⟨v,rfl,hv⟩:=hr
  refine .inl ⟨v,rfl,h v w' ⟨m,rfl,hv.mono (fun k _ hk=> ?_)⟩ hb⟩
  rcases hk with hk | hk
  ·exact ⟨.inl hk,fun hq=>by have:=hpr k hq;omega⟩
  ·exact ⟨.inr (Nat.le_trans hN hk),fun hq=>by have:=hpr k hq;omega⟩
theorem op_new76 (hi:ops[i]? =some o) (hg:o.guard=none) (ho:o.op= .alloc 76) (h:J (a.put o.dst (.pointer (some ⟨w.heap.size,0,none⟩))) (w.alloc (.cells #[.nilFunc] 76 (0,0)))):wpOp Tryz.prog ops Q i J a w:=by
 refine op_value hi (wanted_none hg) ?_ h
 unfold execOp
 rw[ho]
 go_simp
theorem op_st76 {k1 k2:Tmp} {g:Nat} {v:Value} (hi:ops[i]? =some o) (hg:o.guard=none) (hd:o.dst=none) (ho:o.op= .store 76 (.tmp k1) (.tmp k2)) (h1:a.tmps[k1]?.getD undef= .pointer (some ⟨g,0,none⟩)) (h2:a.tmps[k2]?.getD undef=v) (hv:∃g cap,v= .func (.func g) #[] cap) (hz:w.heap[g]? =some (.cells #[.nilFunc] 76 (0,0)))
  (h:∀w',w'.heap[g]? =some (.cells #[v] 76 (0,0))→(∀k,k≠g→w'.heap[k]? =w.heap[k]?)→(∀C,C≤g→Below C w w')→J a w'):wpOp Tryz.prog ops Q i J a w:=by
 obtain ⟨gg,cap,rfl⟩:=hv
 have z0:=blk_cell hz 0
 have f0:=blk_frozen hz 0
 simp at z0
 have hput:a.put none undef=a:=rfl
 have hh:=h (w.setCell ⟨g,0,none⟩ (.func (.func gg) #[] cap)) (by simpa using blk_set hz 0 (.func (.func gg) #[] cap)) (fun k hk=>Below.heap_setCell _ _ _ _ hk) (fun C hC=>(Below.refl C w).setCell (p:=⟨g,0,none⟩) hC _)
 refine wpOp_step hi (fun K hK=> ?_)
 have hk:=hK _ _ hh
 rw[if_pos (wanted_none hg)]
 unfold Oper.wp execOp
 rw[ho]
 go_simp
 exact hk
end
structure Ent (w0 w W2:World) (bp mb:Nat) (s:Sg) (t:S30) (A1:Option Addr) (c1:Nat) (A2:Option Addr) (c2:Nat):Prop where
 bb:BoxAt W2 w.heap.size 73 (.pointer (some ⟨bp,0,none⟩))
 bt:W2.heap[w.heap.size+1]? =some (.cells #[.string t.f0,.slice A1 t.f1.length c1,.slice A2 t.f2.length c2] 30 (0,0))
 low:Below w.heap.size w W2
 sz:w.heap.size+2≤W2.heap.size
 b0:Below w0.heap.size w0 W2
 bld:Bld W2 bp mb s
 tv:TreeV W2 t A1 c1 A2 c2
 bld0:Bld w0 bp mb s
 tv0:TreeV w0 t A1 c1 A2 c2
theorem ent_mk {w0 w:World} {bp mb:Nat} {s:Sg} {t:S30} {A1:Option Addr} {c1:Nat} {A2:Option Addr} {c2:Nat} (h0:Below w0.heap.size w0 w) (hb:Bld w0 bp mb s) (tv:TreeV w0 t A1 c1 A2 c2):Ent w0 w ((w.alloc (.cells #[.pointer (some ⟨bp,0,none⟩)] 73)).alloc (.cells #[.string t.f0,.slice A1 t.f1.length c1,.slice A2 t.f2.length c2] 30)) bp mb s t A1 c1 A2 c2:=by
 have hB:=below_alloc (below_alloc (Below.refl w.heap.size w) (.cells #[.pointer (some ⟨bp,0,none⟩)] 73)) (.cells #[.string t.f0,.slice A1 t.f1.length c1,.slice A2 t.f2.length c2] 30)
 have hb0:=below_step h0 hB
 exact ⟨blk_alloc (blk_new w _) _,new2 w _ _,hB,Nat.le_of_eq (by simp),hb0,hb.below hb0,tv.below hb0,hb,tv⟩
section
variable {w0 w W2 V:World} {bp mb:Nat} {s:Sg} {t:S30} {A1:Option Addr} {c1:Nat} {A2:Option Addr} {c2:Nat} (E:Ent w0 w W2 bp mb s t A1 c1 A2 c2) (hB:Below W2.heap.size W2 V)
include E hB
theorem Ent.fb:Fr V (fun k=>k<w0.heap.size∨w.heap.size≤k) fun W=>Bld W bp mb s:=fr_bld E.bld0 (below_step E.b0 hB) (fun _ h=> .inl h)
theorem Ent.fbb:Fr V (fun k=>k<w0.heap.size∨w.heap.size≤k) fun W=>BoxAt W w.heap.size 73 (.pointer (some ⟨bp,0,none⟩)):=fr_box (E.bb.below hB) (.inr (Nat.le_refl _))
theorem Ent.ft:Fr V (fun k=>k<w0.heap.size∨w.heap.size≤k) fun W=>TreeAt W (w.heap.size+1) t A1 c1 A2 c2:=fr_tree (blk_below E.bt hB) (.inr (Nat.le_succ _)) E.tv0 (below_step E.b0 hB) (fun _ h=> .inl h)
theorem Ent.lo:Below w.heap.size w V:=below_step E.low hB
theorem Ent.below:Ent w0 w V bp mb s t A1 c1 A2 c2:=⟨E.bb.below hB,blk_below E.bt hB,E.lo hB,Nat.le_trans E.sz hB.size,below_step E.b0 hB,E.bld.below hB,E.tv.below hB,E.bld0,E.tv0⟩
end
def Got (w0 w V:World) (p:Value) (r:Option Prd):Prop:=∃g v f,p= .pointer (some ⟨g,0,none⟩)∧w.heap.size≤g∧BoxAt V g 76 v∧PrdV V (fun k=>k<w0.heap.size∨w.heap.size≤k) v f∧r=some f
theorem got_mk {w0 w V:World} {bx:List Bx} {N:Nat} {x:Nat→Value} {pr:Nat→Prop} {r:Option Prd} {b:Bx} (hI:BxInv 76 #[.nilFunc] (fun v=> #[v]) bx N (fun _=>true) x V) (hb:b∈bx) (hN:w.heap.size≤N) (hc:(Kb.fn (fun k=>k<w0.heap.size∨w.heap.size≤k) r).In (x b.c) V pr):Got w0 w V (x b.q) r:=by
 obtain ⟨g,h1,h2,h3⟩:=hI.at_ b hb rfl
 obtain ⟨f,e,hf⟩:=hc
 exact ⟨g,x b.c,f,h1,Nat.le_trans hN h2,by rw[if_pos rfl]at h3;exact h3,hf.mono (fun _ _ h=>h.1),e⟩
section
variable {ops:Array Oper} {R:Act→World→Prop} {RP:World→Prop} {i:Nat} {o:Oper} {J:Act→World→Prop} {a:Act} {w:World}
theorem op_prdT {id:FuncId} (hen:Enters Tryz.prog id) {k1 k2:Tmp} {ts:Array TypeId} {bp:Nat} {u:S30} {A1 A2:Option Addr} {c1 c2:Nat} {r:Option Prd} {N0 N:Nat} {pr:Nat→Prop} (hi:ops[i]? =some o) (hg:o.guard=none) (ho:o.op= .call {callee:= .value (.func id),args:= #[.tmp k1,.tmp k2],argTypes:=ts}) (h1:a.tmps[k1]?.getD undef= .pointer (some ⟨bp,0,none⟩)) (h2:a.tmps[k2]?.getD undef= .agg #[.string u.f0,.slice A1 u.f1.length c1,.slice A2 u.f2.length c2])
  (hc:Calls Tryz.prog id #[.pointer (some ⟨bp,0,none⟩),.agg #[.string u.f0,.slice A1 u.f1.length c1,.slice A2 u.f2.length c2]] w (PrdRet w (fun k=>k<N0) r)) (had:a.defers=[]) (hp:r=none→∀w',Below w.heap.size w w' →RP w') (hpr:∀k,pr k→N0≤k∧k<w.heap.size) (hN:N≤w.heap.size)
  (h:∀v w',(Kb.fn (fun k=>k<N0∨N≤k) r).In v w' pr→Below w.heap.size w w' →J (a.put o.dst v) w'):wpOp Tryz.prog ops (OnNP R RP) i J a w:=by
 refine op_prd hi hg ?_ hc had hp hpr hN h
 have he:=hen #[.pointer (some ⟨bp,0,none⟩),.agg #[.string u.f0,.slice A1 u.f1.length c1,.slice A2 u.f2.length c2]] w
 unfold execOp
 rw[ho]
 go_simp
end
end
end Go.Proofs.YtcfjomnihhdpaaaGreatDoor.A
