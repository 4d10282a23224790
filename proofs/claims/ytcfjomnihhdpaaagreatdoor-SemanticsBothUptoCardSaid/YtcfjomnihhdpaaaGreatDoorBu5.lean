/-
  A part of the proof: S22, S23, S24, Q0, Q1, Q2.
-/
import Derived.StillTailTactics
import Derived.Deep.RegionLaw
import Derived.BigQuiet
import Derived.BigRegion
import Derived.Laws.EntriesVeiled
import Derived.Defers
import Derived.Recover
import Derived.Test.YtcfjomnihhdpaaaGreatDoorBu4
namespace Go.Proofs.YtcfjomnihhdpaaaGreatDoor.A
open Go.RowKit Go.Proofs.YtcfjomnihhdpaaaGreatDoorW.PrintWords Go.Proofs.YtcfjomnihhdpaaaGreatDoorW.PrintLast Go.Proofs.YtcfjomnihhdpaaaGreatDoorW.PrintMore
set_option linter.unusedVariables false
set_option linter.unusedSimpArgs false
section
set_option maxHeartbeats 2000000 in
set_option maxRecDepth 100000 in
theorem atom_no (w:World) (bp mb:Nat) (s:Sg) (h:Bld w bp mb s) (x:ByteArray) (A3:Option Addr) (n3 c3:Nat) (A4:Option Addr) (n4 c4:Nat) (depth:Int) (v:Value) (hp:predP s.ps x=none) :
  Calls Tryz.prog 83 #[.pointer (some ⟨bp,0,none⟩),.agg #[.string x,.slice A3 n3 c3,.slice A4 n4 c4],.int .i64 depth,v] w (PostM w none):=by
 have HB0:=Aside0.mk (below_alloc (below_alloc (Below.refl w.heap.size w) (.cells #[.string x,.slice A3 n3 c3,.slice A4 n4 c4] 30)) (.cells #[.int .i64 0,.string ⟨#[]⟩,.slice none 0 0,.int .i64 0,.int .i64 0,.slice none 0 0,.int .i64 0,.int .i64 0,.bool false] 70))
 have C:=Aside0.mk (known_calls _ bp mb s (h.below HB0.out) x A3 n3 c3 A4 n4 c4)
 rw[hp]at C
 clear h hp
 go_enter Tryz.func83,Tryz.ntmps83
 go_wp2_with (go_at_call 81;refine C.out.mono ?_;rintro e w2 ⟨hB,rfl⟩;have HB1:=Aside0.mk (below_step HB0.out hB);clear hB)
 refine ⟨rfl,?_⟩
 exact PostM.no HB1.out
structure AtomSt (w wr:World) (p:S107) (B A5:Option Addr) (c5 q g:Nat) (depth:Int) (n:Nat) (ts:List Tm) (v:Value):Prop where
 out:wr.heap[g]? =some (.cells #[.int .i64 3,.string p.f0,v,.int .i64 0,.int .i64 0,.slice A5 0 c5,.int .i64 1,.int .i64 1,.bool (((n:Int) != (p.f1.length:Int)) || badArgs ts p.f1)] 70 (0,0))
 res:wr.heap[w.heap.size+1]? =some (.cells #[.int .i64 0,.string ⟨#[]⟩,.slice none 0 0,.int .i64 0,.int .i64 0,.slice none 0 0,.int .i64 0,.int .i64 0,.bool false] 70 (0,0))
 pb:wr.heap[q]? =some (.cells #[.string p.f0,.slice B p.f1.length p.f1.length] 107 (0,0))
 pc:Kd.F Kd.string wr (fun k=>w.heap.size+2≤k∧k≠q∧k≠g∧some k≠v.ownBlock) B p.f1.length p.f1
 row:Row k59 59 wr (fun _=>False) v (ts.map (refP · depth))
 far:∀k,v.ownBlock=some k→w.heap.size+2≤k∧k≠q∧k≠g
 qg:w.heap.size+2≤q∧q<g
 below:Below w.heap.size w wr
section
variable {w wr w1 W w9:World} {p:S107} {B A5:Option Addr} {c5 q g:Nat} {depth:Int} {n:Nat} {ts:List Tm} {v v1:Value}
theorem AtomSt.below_ (h:AtomSt w wr p B A5 c5 q g depth n ts v) (hB:Below wr.heap.size wr W):AtomSt w W p B A5 c5 q g depth n ts v :=
 ⟨blk_below h.out hB,blk_below h.res hB,blk_below h.pb hB,Kd.F_below h.pc hB,h.row.step (fun k hk=>hB.block k (h.row.lt k hk)) (fun _ hk _=>hk.elim),h.far,h.qg,below_step h.below hB⟩
theorem AtomSt.next (h:AtomSt w W p B A5 c5 q g depth n ts v) (t:Tm) (b:Bool) (hR:Row k59 59 w9 (fun _=>False) v1 (ts.map (refP · depth)++[refP t depth])) (hG:W.grownBy w9 v.ownBlock) (hat:v1.ownBlock=v.ownBlock∨∃b,v1.ownBlock=some b∧W.heap.size≤b)
  (hb:b=(decide (ts.length<p.f1.length) && ((rdOf ByteArray.empty p.f1 ts.length).toList != t.sort.toList))) :
  AtomSt w ((w9.setCell ⟨g,2,none⟩ v1).setCell ⟨g,8,none⟩ (.bool ((((n:Int) != (p.f1.length:Int)) || badArgs ts p.f1) || b))) p B A5 c5 q g depth n (ts++[t]) v1:=by
 have hlt:=blk_lt h.out
 have hqg:=h.qg
 have hne:∀j,j=g∨j=q∨j=w.heap.size+1→some j≠v.ownBlock:=fun j hj e=>by have:=h.far j e.symm;omega
 have hfar1:∀j,v1.ownBlock=some j→w.heap.size+2≤j∧j≠q∧j≠g:=fun j e=>by
  rcases hat with ha | ⟨b,ha,hb⟩
  ·exact h.far j (ha.symm.trans e)
  ·rw[ha]at e
   injection e with e
   omega
 have hf:∀k,k≠g→((w9.setCell ⟨g,2,none⟩ v1).setCell ⟨g,8,none⟩ (.bool ((((n:Int) != (p.f1.length:Int)) || badArgs ts p.f1) || b))).heap[k]? =w9.heap[k]? :=fun k hk=>(Below.heap_setCell _ ⟨g,8,none⟩ _ k hk).trans (Below.heap_setCell _ ⟨g,2,none⟩ _ k hk)
 refine ⟨?_,(hf _ (by omega)).trans (blk_grownBy hG h.res (hne _ (.inr (.inr rfl)))),(hf _ (by omega)).trans (blk_grownBy hG h.pb (hne _ (.inr (.inl rfl)))),?_,?_,hfar1,hqg,?_⟩
 ·have q2:=blk_set (blk_set (blk_grownBy hG h.out (hne _ (.inl rfl))) 2 v1) 8 (.bool ((((n:Int) != (p.f1.length:Int)) || badArgs ts p.f1) || b))
  rw[badArgs_snoc,←hb,←Bool.or_assoc]
  simpa using q2
 ·refine Kd.F_mono (Kd.F_step (Kd.F_step (Kd.F_bound h.pc) (W1:=w9) (fun k hk hlt=>hG.block k hlt hk.1.2.2.2)) (fun k hk _=>hf k hk.1.2.2.1)) (fun k hk=>⟨hk.1.1,hk.1.2.1,hk.1.2.2.1,fun e=> ?_⟩)
  rcases hat with ha | ⟨b,ha,hb⟩
  ·exact hk.1.2.2.2 (e.trans ha)
  ·rw[ha]at e
   injection e with e
   have:=hk.2
   omega
 ·rw[List.map_append]
  exact hR.step (fun j e=>hf j (hfar1 j e).2.2) (fun j hj _=>hj.elim)
 ·exact below_set (below_set (h.below.grown hG h.below.size (fun j e=>by have:=h.far j e;omega)) (by omega)) (by omega)
end
set_option maxHeartbeats 2000000 in
set_option maxRecDepth 100000 in
theorem atom_yes (w:World) (bp mb:Nat) (s:Sg) (h:Bld w bp mb s) (x:ByteArray) (A3:Option Addr) (n3 c3:Nat) (A4:Option Addr) (n4 c4:Nat) (depth:Int) (A:Option Addr) (c:Nat) (ts:List Tm) (hC:Kd.C k79 w A ts.length ts) (hl:ts.length≤1000) (p:S107) (hp:predP s.ps x=some p) :
  Calls Tryz.prog 83 #[.pointer (some ⟨bp,0,none⟩),.agg #[.string x,.slice A3 n3 c3,.slice A4 n4 c4],.int .i64 depth,.slice A ts.length c] w (PostM w (some ⟨⟨3,p.f0,ts.map (refP · depth),0,0,[]⟩,1,1,((ts.length:Int) != (p.f1.length:Int)) || badArgs ts p.f1⟩)):=by
 have HB0:=Aside0.mk (below_alloc (below_alloc (Below.refl w.heap.size w) (.cells #[.string x,.slice A3 n3 c3,.slice A4 n4 c4] 30)) (.cells #[.int .i64 0,.string ⟨#[]⟩,.slice none 0 0,.int .i64 0,.int .i64 0,.slice none 0 0,.int .i64 0,.int .i64 0,.bool false] 70))
 have HR0:=Aside0.mk (new2 w (.cells #[.string x,.slice A3 n3 c3,.slice A4 n4 c4] 30) (.cells #[.int .i64 0,.string ⟨#[]⟩,.slice none 0 0,.int .i64 0,.int .i64 0,.slice none 0 0,.int .i64 0,.int .i64 0,.bool false] 70))
 have hsz:((w.alloc (.cells #[.string x,.slice A3 n3 c3,.slice A4 n4 c4] 30)).alloc (.cells #[.int .i64 0,.string ⟨#[]⟩,.slice none 0 0,.int .i64 0,.int .i64 0,.slice none 0 0,.int .i64 0,.int .i64 0,.bool false] 70)).heap.size=w.heap.size+2:=by simp
 have C:=Aside0.mk (known_calls _ bp mb s (h.below HB0.out) x A3 n3 c3 A4 n4 c4)
 rw[hp]at C
 have HC:=Aside0.mk hC
 have HSZ:=Aside0.mk hsz
 clear h hp hC hsz
 have D:=Aside0.mk (fun (W:World)=>node_nil W (fun _=>False) 3 p.f0 0 0 none 0 [] (Kd.F_nil _ _ _) (by simp))
 have HM0:=Aside0.mk (show nodeP 3 p.f0 0 0 []=⟨⟨3,p.f0,[],0,0,[]⟩,1,1,false⟩from by unfold nodeP wrap64;simp)
 rw[HM0.out]at D
 go_enter Tryz.func83,Tryz.ntmps83
 go_wp2_with (first
  |(go_at_call 81;refine C.out.mono ?_;rintro e w2 ⟨hB,B,rfl,hF⟩;have HB1:=Aside0.mk hB;have HF1:=Aside0.mk hF;clear hB hF)
  |(go_at_call 60;refine (D.out _).mono ?_;rintro e w3 ⟨⟨A5,c5,rfl,hm⟩,hB⟩;have HB2:=Aside0.mk hB;have hq:=blk_below (heap_alloc_new w2 _) hB;have HQ:=Aside0.mk (fun (o:Obj)=>blk_alloc hq o);have j0:=fun (o:Obj)=>blk_cell (HQ.out o) 0;have j1:=fun (o:Obj)=>blk_cell (HQ.out o) 1;simp at j0 j1;clear hB hm hq;unfold mnW;simp only[List.length_nil]))
 have HS0:Aside0 (AtomSt w (w3.alloc (.cells #[.int .i64 3,.string p.f0,.slice none 0 0,.int .i64 0,.int .i64 0,.slice A5 0 c5,.int .i64 1,.int .i64 1,.bool ((ts.length:Int) != (p.f1.length:Int))] 70)) p B A5 c5 w2.heap.size w3.heap.size depth ts.length (ts.take (0:Int).toNat) (.slice none 0 0)):=by
  have hB1:=below_step HB0.out HB1.out
  have hBq:=below_alloc (Below.refl _ w2) (.cells #[.string p.f0,.slice B p.f1.length p.f1.length] 107)
  have hB2:Below w2.heap.size w2 w3:=below_step hBq HB2.out
  have hs1:=HB1.out.size
  have hs2:=HB2.out.size
  have hsz:=HSZ.out
  have hq2:(w2.alloc (.cells #[.string p.f0,.slice B p.f1.length p.f1.length] 107)).heap.size=w2.heap.size+1:=by simp
  refine ⟨⟨?_,blk_alloc (blk_below HR0.out (below_step HB1.out hB2)) _,HQ.out _,?_,?_,fun k hk=>by simp[Value.ownBlock]at hk,⟨by omega,by omega⟩,below_alloc (below_step hB1 hB2) _⟩⟩
  ·have:=heap_alloc_new w3 (.cells #[.int .i64 3,.string p.f0,.slice none 0 0,.int .i64 0,.int .i64 0,.slice A5 0 c5,.int .i64 1,.int .i64 1,.bool ((ts.length:Int) != (p.f1.length:Int))] 70)
   simpa[badArgs]using this
  ·refine Kd.F_alloc (Kd.F_below (Kd.F_mono (Kd.F_bound HF1.out) (fun k hk=> ?_)) hB2) _
   rw[hsz]at hk
   exact ⟨hk.1,by omega,by omega,by simp[Value.ownBlock]⟩
  ·exact Row.nil _ _ _ _
 clear HB2 HB1 HQ j0 j1 D HM0 C HSZ HF1
 go_loopw [29] (fun i w' =>∃y:Int,i= .int .i64 y∧0≤y∧y≤ts.length∧Aside0 (∃v,AtomSt w w' p B A5 c5 w2.heap.size w3.heap.size depth ts.length (ts.take y.toNat) v)) (fun i _=>ts.length-(intOf i).toNat)
 case atStart=>exact ⟨0,rfl,Int.le_refl _,Int.natCast_nonneg _,⟨_,HS0.out⟩⟩
 case round =>
  clear HS0
  obtain ⟨y,rfl,hy,hyk,HS⟩:=hrel
  obtain ⟨v,hS⟩:=HS.out
  have HN:=Aside0.mk hS
  clear HS hS
  obtain ⟨Av,cv,hv⟩:=HN.out.row.slice
  generalize hnv:((ts.take y.toNat).map (refP · depth)).length=nv at hv
  subst hv
  have hgq:w2.heap.size<w3.heap.size:=HN.out.qg.2
  generalize w2.heap.size=q at *
  generalize w3.heap.size=g at *
  by_cases hlt:y<ts.length
  ·obtain ⟨ad,e,y0,y1,y2,y3⟩:=at_T79 HC.out y hy hlt
   cases e
   have hB:=HN.out.below
   replace y0:=(hB.cell (World.block_lt_of_cell? w _ y0)).trans y0
   replace y1:=(hB.cell (World.block_lt_of_cell? w _ y1)).trans y1
   replace y2:=(hB.cell (World.block_lt_of_cell? w _ y2)).trans y2
   replace y3:=(hB.cell (World.block_lt_of_cell? w _ y3)).trans y3
   clear hB
   have p1:=eq_true hy
   have q1:=eq_true hlt
   have HT:Aside0 (ts.take (y+1).toNat=ts.take y.toNat++[rd_T79 ts y]):=⟨take_rd79 ts y hy hlt⟩
   generalize rd_T79 ts y=t at *
   go_wp2
   have HN7:=Aside0.mk (HN.out.below_ (below_alloc (Below.refl _ wr) (.cells #[.int .i64 t.kind,.string t.name,.int .i64 t.index,.string t.sort] 79)))
   have HX7:=Aside0.mk (heap_alloc_new wr (.cells #[.int .i64 t.kind,.string t.name,.int .i64 t.index,.string t.sort] 79))
   have hbg:g<wr.heap.size:=blk_lt HN.out.out
   have HVL:=Aside0.mk HN.out.row.lt
   generalize hW7:wr.alloc (.cells #[.int .i64 t.kind,.string t.name,.int .i64 t.index,.string t.sort] 79)=W7 at *
   have hb7:wr.heap.size<W7.heap.size:=blk_lt HX7.out
   generalize wr.heap.size=b at *
   have CR:=Aside0.mk (fun (W:World)=>ref_calls W t depth)
   unfold tmV at CR
   have HL:Aside0 ((((ts.take y.toNat).map (refP · depth)).length+1)*32≤140737488355328):=⟨by rw[List.length_map,List.length_take];omega⟩
   obtain ⟨fs,hfs⟩:∃fs,fs=(ts.take y.toNat).map (refP · depth):=⟨_,rfl⟩
   rw[←hfs]at HL
   have HFS:=Aside0.mk hfs
   have SX:=Aside0.mk (fun (W:World) (hX:W.heap[b]? =some (.cells #[.int .i64 t.kind,.string t.name,.int .i64 t.index,.string t.sort] 79 (0,0)))=>(show W.cell? ⟨b,0,none⟩=some (.int .i64 t.kind)∧W.cell? ⟨b,1,none⟩=some (.string t.name)∧W.cell? ⟨b,2,none⟩=some (.int .i64 t.index)∧W.cell? ⟨b,3,none⟩=some (.string t.sort)from ⟨blk_cell hX 0,blk_cell hX 1,blk_cell hX 2,blk_cell hX 3⟩))
   have o2:=blk_cell (blk_drew HN7.out.out) 2
   simp at o2
   generalize hrr:refP t depth=r at *
   unfold refV at CR
   clear hfs
   have x0:=blk_cell (blk_drew HX7.out) 0
   have x1:=blk_cell (blk_drew HX7.out) 1
   have x2:=blk_cell (blk_drew HX7.out) 2
   have x3:=blk_cell (blk_drew HX7.out) 3
   simp at x0 x1 x2 x3
   go_region_law
    (first
     |(go_simp;go_at_call 128;refine (CR.out _).mono ?_;rintro e w8 ⟨rfl,hB⟩;have hB8:=below_step (below_drew (Below.refl _ W7)) hB;have HN8:=Aside0.mk (HN7.out.below_ hB8);have X8:=Aside0.mk (blk_below HX7.out hB8);have o3:=blk_cell HN8.out.out 2;have o4:=fun (o:Obj)=>blk_cell (blk_alloc HN8.out.out o) 2;simp at o3 o4;clear hB hB8)
     |(refine Row.append_step k59 (W:=w8) rfl (.tmp 36) (.tmp 40) 34 59 (.agg #[.int .i64 0,.int .i64 0,.string ⟨#[]⟩]) 32 rfl Tryz.underlying34 info59 rfl (by decide) (by decide) (.slice Av nv cv) fs r [.int .i64 r.f0,.int .i64 r.f1,.string r.f2] (fun _=>False) (by simp[Act.eval,Act.put]) (by simp[Act.eval,Act.put]) (k59_mkF _ _ _) (fun _ hk=>hk.elim) (HFS.out▸HN8.out.row) HL.out ?_;intro v1 w9 hR1 hG hat;have HX:=Aside0.mk (And.intro hR1 (And.intro hG hat));have X9:=Aside0.mk (blk_grownBy hG X8.out (fun e=>by have:=HVL.out _ e.symm;omega));have qo:=blk_grownBy hG HN8.out.out (fun e=>by have:=HN8.out.far _ e.symm;omega);have QO:=Aside0.mk qo;have QP:=Aside0.mk (blk_grownBy hG HN8.out.pb (fun e=>by have:=HN8.out.far _ e.symm;omega));have f2:=blk_frozen qo 2;have r2:=blk_cell qo 2;simp at r2;obtain ⟨A9,c9,hv1⟩:=hR1.slice;generalize List.length _=n1 at hv1;subst hv1;clear hR1 hG hat qo))
   all_goals clear x0 x1 x2 x3 o2 o3 o4 CR r2 f2
   all_goals (
    have G10:=blk_set QO.out 2 (.slice A9 n1 c9)
    simp at G10
    have X10:=blk_far X9.out (p:=⟨g,2,none⟩) (by simp;omega) (.slice A9 n1 c9)
    have P10:=blk_far QP.out (p:=⟨g,2,none⟩) (by simp;omega) (.slice A9 n1 c9)
    have r8:=blk_cell G10 8
    have f8:=blk_frozen G10 8
    have p1:=blk_cell P10 1
    have x3:=blk_cell X10 3
    simp at r8 p1 x3
    have htl:(ts.take y.toNat).length=y.toNat:=by rw[List.length_take];omega
    have HNX:=Aside0.mk (HN8.out.next (depth:=depth) t _ (by rw[hrr,←HFS.out];exact HX.out.1) HX.out.2.1 HX.out.2.2 rfl)
    rw[htl,show ((y.toNat:Nat):Int)=y by omega]at HNX
    clear G10 X10 htl hnv hrr y0 y1 y2 y3
    have HOR:=Aside0.mk (fun b=>(show ∀ob:Bool,(((ts.length:Int) != (p.f1.length:Int)) || badArgs (ts.take y.toNat) p.f1)=ob→(((((ts.length:Int) != (p.f1.length:Int)) || badArgs (ts.take y.toNat) p.f1)) || b)=(ob || b)from fun ob h=>by rw[h]))
    have HP10:=Aside0.mk P10
    clear P10
    cases ob:(((ts.length:Int) != (p.f1.length:Int)) || badArgs (ts.take y.toNat) p.f1)with
    |true =>
     rw[ob]at r8
     rw[ob,Bool.true_or]at HNX
     clear ob HOR p1
     generalize hW10:w9.setCell ⟨g,2,none⟩ (.slice A9 n1 c9)=W10 at *
     have HW10:=Aside0.mk hW10
     clear hW10
     go_wp2_with fail
     go_region
     go_wp2
     go_roundw
     case rel=>exact ⟨y+1,rfl,by omega,by omega,⟨_,by rw[HT.out];exact HNX.out.below_ (below_drew (Below.refl _ _))⟩⟩
     case measure=>simp[intOf];omega
    |false =>
     rw[ob]at r8
     rw[ob,Bool.false_or]at HNX
     clear ob HOR
     by_cases hyp:y<(p.f1.length:Int)
     ·have d1:decide (y<(p.f1.length:Int))=true:=decide_eq_true hyp
      have HE:Aside0 ((decide (y.toNat<p.f1.length))=true):=⟨decide_eq_true (by omega)⟩
      rw[HE.out,Bool.true_and]at HNX
      obtain ⟨ag,e,hel⟩:=Kd.at_string (HNX.out.pc (w9.setCell ⟨g,2,none⟩ (.slice A9 n1 c9)) (fun k hk _=>(Below.heap_setCell _ ⟨g,8,none⟩ _ k hk.2.2.1).symm)) y hy hyp
      cases e
      have q2:=eq_true hyp
      clear HE hyp
      generalize rdOf ByteArray.empty p.f1 y=el at *
      generalize hW10:w9.setCell ⟨g,2,none⟩ (.slice A9 n1 c9)=W10 at *
      have HW10:=Aside0.mk hW10
      clear hW10
      cases hst:(el.toList == t.sort.toList)with
      |true =>
       have HE:Aside0 ((el.toList != t.sort.toList)=false):=⟨by rw[bne,hst];rfl⟩
       rw[HE.out]at HNX
       go_wp2_with fail
       go_region
       go_wp2
       go_roundw
       case rel=>exact ⟨y+1,rfl,by omega,by omega,⟨_,by rw[HT.out];exact HNX.out.below_ (below_drew (Below.refl _ _))⟩⟩
       case measure=>simp[intOf];omega
      |false =>
       have HE:Aside0 ((el.toList != t.sort.toList)=true):=⟨by rw[bne,hst];rfl⟩
       rw[HE.out]at HNX
       go_wp2_with fail
       go_region
       go_wp2
       go_roundw
       case rel=>exact ⟨y+1,rfl,by omega,by omega,⟨_,by rw[HT.out];exact HNX.out.below_ (below_drew (Below.refl _ _))⟩⟩
       case measure=>simp[intOf];omega
     ·have d1:decide (y<(p.f1.length:Int))=false:=decide_eq_false hyp
      have HE:Aside0 ((decide (y.toNat<p.f1.length))=false):=⟨decide_eq_false (by omega)⟩
      rw[HE.out,Bool.false_and]at HNX
      clear hyp HE
      generalize hW10:w9.setCell ⟨g,2,none⟩ (.slice A9 n1 c9)=W10 at *
      have HW10:=Aside0.mk hW10
      clear hW10
      go_wp2_with fail
      go_region
      go_wp2
      go_roundw
      case rel=>exact ⟨y+1,rfl,by omega,by omega,⟨_,by rw[HT.out];exact HNX.out.below_ (below_drew (Below.refl _ _))⟩⟩
      case measure=>simp[intOf];omega)
  ·have HE:Aside0 (ts.take y.toNat=ts):=⟨List.take_of_length_le (by omega)⟩
   rw[HE.out]at HN hnv
   rw[List.length_map]at hnv
   subst hnv
   have OO:=Aside0.mk HN.out.out
   have RR:=Aside0.mk HN.out.res
   have o0:=blk_cell OO.out 0
   have o1:=blk_cell OO.out 1
   have o2:=blk_cell OO.out 2
   have o3:=blk_cell OO.out 3
   have o4:=blk_cell OO.out 4
   have o5:=blk_cell OO.out 5
   have o6:=blk_cell OO.out 6
   have o7:=blk_cell OO.out 7
   have o8:=blk_cell OO.out 8
   have r0:=blk_cell RR.out 0
   have r1:=blk_cell RR.out 1
   have r2:=blk_cell RR.out 2
   have r3:=blk_cell RR.out 3
   have r4:=blk_cell RR.out 4
   have r5:=blk_cell RR.out 5
   have r6:=blk_cell RR.out 6
   have r7:=blk_cell RR.out 7
   have r8:=blk_cell RR.out 8
   have f0:=blk_frozen RR.out 0
   have f1:=blk_frozen RR.out 1
   have f2:=blk_frozen RR.out 2
   have f3:=blk_frozen RR.out 3
   have f4:=blk_frozen RR.out 4
   have f5:=blk_frozen RR.out 5
   have f6:=blk_frozen RR.out 6
   have f7:=blk_frozen RR.out 7
   have f8:=blk_frozen RR.out 8
   simp at o0 o1 o2 o3 o4 o5 o6 o7 o8 r0 r1 r2 r3 r4 r5 r6 r7 r8
   generalize hbb:(((ts.length:Int) != (p.f1.length:Int)) || badArgs ts p.f1)=bb at *
   have HBB:=Aside0.mk hbb
   clear hbb
   go_wp2
   have hrow:=HN.out.row.F
   refine bodyPost_ret (results_single rfl (.cell (w.heap.size+1) 70 _ (0,0) _ rfl (fin9 (W:=wr) RR.out (.int .i64 3) (.string p.f0) (.slice Av ts.length cv) (.int .i64 0) (.int .i64 0) (.slice A5 0 c5) (.int .i64 1) (.int .i64 1) (.bool bb)) Tryz.underlying70 rfl (by kernel_rfl) .nil)) rfl ?_
   have hfar:=HN.out.far
   have hle:=(HN.out.row.reads').2.1
   refine PostM.yes (fin9_below HN.out.below (Nat.le_succ _) _ _ _ _ _ _ _ _ _) ⟨Av,cv,A5,c5,?_,?_,?_,Nat.zero_le _,fun W' _=>⟨rfl,Nat.zero_le _,fun hp=>absurd hp (by simp)⟩⟩
   ·unfold mnW
    simp only[List.length_map,List.length_nil,HBB.out]
   ·simpa using hle
   ·have hrow' :=Kd.F_mono (ok' :=fun k=>w.heap.size≤k∧k≠w.heap.size+1) hrow (fun k hk=>by
     rcases hk with hk | hk
     ·exact hk.elim
     ·have:=hfar k hk.symm
      exact ⟨by omega,by omega⟩)
    exact Kd.F_mono (Kd.F_step hrow' (fun k hk _=>fin9_far hk.2 _ _ _ _ _ _ _ _ _)) (fun k hk=>hk.1)
theorem atom_calls (w:World) (bp mb:Nat) (s:Sg) (h:Bld w bp mb s) (x:ByteArray) (A3:Option Addr) (n3 c3:Nat) (A4:Option Addr) (n4 c4:Nat) (depth:Int) (A:Option Addr) (c:Nat) (ts:List Tm) (hC:Kd.C k79 w A ts.length ts) (hl:ts.length≤1000) :
  Calls Tryz.prog 83 #[.pointer (some ⟨bp,0,none⟩),.agg #[.string x,.slice A3 n3 c3,.slice A4 n4 c4],.int .i64 depth,.slice A ts.length c] w (PostM w (atomP s.ps x depth ts)):=by
 unfold atomP
 cases hp:predP s.ps x with
 |none=>exact atom_no w bp mb s h x A3 n3 c3 A4 n4 c4 depth _ hp
 |some p=>exact atom_yes w bp mb s h x A3 n3 c3 A4 n4 c4 depth A c ts hC hl p hp
end
theorem PostM.stored {W w3:World} {m:S70} {A2 A5:Option Addr} {c2 c5 B g:Nat} (hB:Below W.heap.size W w3) (hm:MnV w3 (fun k=>B≤k) (mnW m A2 c2 A5 c5) m) (hg:W.heap.size≤g) (hgB:g<B) :
  PostM W (some m) (.returned (mnW m A2 c2 A5 c5)) (set9 w3 g (.int .i64 m.f0.f0) (.string m.f0.f1) (.slice A2 m.f0.f2.length c2) (.int .i64 m.f0.f3) (.int .i64 m.f0.f4) (.slice A5 m.f0.f5.length c5) (.int .i64 m.f1) (.int .i64 m.f2) (.bool m.f3)) :=
 PostM.yes (fin9_below hB hg _ _ _ _ _ _ _ _ _) ((hm.stored (fun k hk=>by omega) _ _ _ _ _ _ _ _ _).mono (fun k hk=>by omega))
structure TreeAt (w:World) (Bt:Nat) (t:S30) (A1:Option Addr) (c1:Nat) (A2:Option Addr) (c2:Nat):Prop where
 blk:w.heap[Bt]? =some (.cells #[.string t.f0,.slice A1 t.f1.length c1,.slice A2 t.f2.length c2] 30 (0,0))
 l1:t.f1.length≤c1
 v:(Kd.int .i64).C w A1 t.f1.length t.f1
 l2:t.f2.length≤c2
 k:k30.C w A2 t.f2.length t.f2
theorem TreeAt.below {w w1:World} {Bt:Nat} {t:S30} {A1:Option Addr} {c1:Nat} {A2:Option Addr} {c2:Nat} (h:TreeAt w Bt t A1 c1 A2 c2) (hB:Below w.heap.size w w1):TreeAt w1 Bt t A1 c1 A2 c2 :=
 ⟨blk_below h.blk hB,h.l1,Kd.C_below h.v hB,h.l2,Kd.C_below h.k hB⟩
def BoxAt (w:World) (b:Nat) (ty:TypeId) (v:Value):Prop:=w.heap[b]? =some (.cells #[v] ty (0,0))
theorem BoxAt.below {w w1:World} {b:Nat} {ty:TypeId} {v:Value} (h:BoxAt w b ty v) (hB:Below w.heap.size w w1):BoxAt w1 b ty v:=blk_below h hB
theorem BoxAt.cell {w:World} {b:Nat} {ty:TypeId} {v:Value} (h:BoxAt w b ty v):w.cell? ⟨b,0,none⟩=some v:=blk_cell h 0
def TmAt (w:World) (b:Nat) (x:Tm):Prop:=w.heap[b]? =some (.cells #[.int .i64 x.kind,.string x.name,.int .i64 x.index,.string x.sort] 79 (0,0))
theorem TmAt.below {w w1:World} {b:Nat} {x:Tm} (h:TmAt w b x) (hB:Below w.heap.size w w1):TmAt w1 b x:=blk_below h hB
section
theorem mnW_inj {m:S70} {A2 A5 B2 B5:Option Addr} {c2 c5 d2 d5:Nat} (h:mnW m A2 c2 A5 c5=mnW m B2 d2 B5 d5):A2=B2∧c2=d2∧A5=B5∧c5=d5:=by
 unfold mnW at h
 injection h with h
 have h:=congrArg Array.toList h
 simp at h
 exact ⟨h.1.1,h.1.2,h.2.1,h.2.2⟩
theorem MnV.FK {w:World} {ok:Nat→Prop} {m:S70} {A2 A5:Option Addr} {c2 c5:Nat} (h:MnV w ok (mnW m A2 c2 A5 c5) m):Kd.FK k70 w ok m [.int .i64 m.f0.f0,.string m.f0.f1,.slice A2 m.f0.f2.length c2,.int .i64 m.f0.f3,.int .i64 m.f0.f4,.slice A5 m.f0.f5.length c5,.int .i64 m.f1,.int .i64 m.f2,.bool m.f3]:=by
 obtain ⟨B2,d2,B5,d5,e,l2,g2,l5,g5⟩:=h
 obtain ⟨rfl,rfl,rfl,rfl⟩:=mnW_inj e
 exact fun W' hW=>k70_mk W' m l2 (g2 W' hW) l5 (g5 W' hW)
section
variable {V:World} {B:Nat} {x y:S70} {A2 A5 B2 B5:Option Addr} {c2 c5 d2 d5:Nat}
theorem node1_calls (op:Int) (name:ByteArray) (fr tl:Int) (hB:B≤V.heap.size) (h1:MnV V (fun k=>B≤k) (mnW x A2 c2 A5 c5) x) :
  Calls Tryz.prog 60 #[.agg #[.int .i64 op,.string name,.slice none 0 0,.int .i64 fr,.int .i64 tl,.slice none 0 0],.slice (some ⟨V.heap.size,0,none⟩) 1 1] (V.alloc (.cells #[.int .i64 x.f0.f0,.string x.f0.f1,.slice A2 x.f0.f2.length c2,.int .i64 x.f0.f3,.int .i64 x.f0.f4,.slice A5 x.f0.f5.length c5,.int .i64 x.f1,.int .i64 x.f2,.bool x.f3] 70)) fun e w' =>(∃v,e= .returned v∧MnV w' (fun k=>B≤k) v (nodeP op name fr tl [x]))∧Below V.heap.size V w' :=by
 have hF:=mns1 (ok:=fun k=>B≤k) (c:=[.int .i64 x.f0.f0,.string x.f0.f1,.slice A2 x.f0.f2.length c2,.int .i64 x.f0.f3,.int .i64 x.f0.f4,.slice A5 x.f0.f5.length c5,.int .i64 x.f1,.int .i64 x.f2,.bool x.f3]) (w:=V.alloc (.cells #[.int .i64 x.f0.f0,.string x.f0.f1,.slice A2 x.f0.f2.length c2,.int .i64 x.f0.f3,.int .i64 x.f0.f4,.slice A5 x.f0.f5.length c5,.int .i64 x.f1,.int .i64 x.f2,.bool x.f3] 70)) (g:=V.heap.size) (heap_alloc_new V _) (Kd.FK_below h1.FK (below_alloc (Below.refl _ _) _))
 refine (node_calls _ _ op name fr tl _ 1 [x] hF (by simp)).mono fun e w' h=> ?_
 obtain ⟨⟨v,rfl,hm⟩,hb⟩:=h
 refine ⟨⟨v,rfl,hm.mono (fun k hk=> ?_)⟩,below_step (below_alloc (Below.refl _ _) _) hb⟩
 rcases hk with (hk | hk) | hk
 ·exact hk
 ·omega
 ·have:=(below_alloc (Below.refl V.heap.size V) (.cells #[.int .i64 x.f0.f0,.string x.f0.f1,.slice A2 x.f0.f2.length c2,.int .i64 x.f0.f3,.int .i64 x.f0.f4,.slice A5 x.f0.f5.length c5,.int .i64 x.f1,.int .i64 x.f2,.bool x.f3] 70)).size;omega
theorem bothB (hB:B≤V.heap.size) {v1 v2:Value} (h1:MnV V (fun k=>B≤k) v1 x) (h2:MnV V (fun k=>B≤k) v2 y):Calls Tryz.prog 85 #[v1,v2] V fun e w' =>(∃v,e= .returned v∧MnV w' (fun k=>B≤k) v (bothP x y))∧Below V.heap.size V w' :=
 (both_calls V _ v1 v2 x y h1 h2).mono fun e w' h=>by
  obtain ⟨⟨v,he,hm⟩,hb⟩:=h
  exact ⟨⟨v,he,hm.mono (fun k hk=>hk.elim id (fun h=>Nat.le_trans hB h))⟩,hb⟩
theorem notB (hB:B≤V.heap.size) {v1:Value} (h1:MnV V (fun k=>B≤k) v1 x):Calls Tryz.prog 146 #[v1] V fun e w' =>(∃v,e= .returned v∧MnV w' (fun k=>B≤k) v (notP x))∧Below V.heap.size V w' :=
 (not_calls V _ v1 x h1).mono fun e w' h=>by
  obtain ⟨⟨v,he,hm⟩,hb⟩:=h
  exact ⟨⟨v,he,hm.mono (fun k hk=>hk.elim id (fun h=>Nat.le_trans hB h))⟩,hb⟩
end
def ApplyC (bp:Nat) (t:S30) (F:Int→Prd→Option S70) (W:World):Prop :=
 ∀(B1:Option Addr) (d1:Nat) (B2:Option Addr) (d2:Nat),(Kd.int .i64).C W B1 t.f1.length t.f1→t.f1.length≤d1→k30.C W B2 t.f2.length t.f2→t.f2.length≤d2→∀(depth:Int) (v:Value) (f:Prd),PrdV W (fun _=>True) v f →
  Calls Tryz.prog 133 #[.pointer (some ⟨bp,0,none⟩),.agg #[.string t.f0,.slice B1 t.f1.length d1,.slice B2 t.f2.length d2],.int .i64 depth,v] W (PostM W (F depth f))
end
section
attribute [local go_sem] Oper.semAt_some
def cntF (l:Array Bool):Nat:=(l.toList.filter (fun b=> !b)).length
theorem cntF_list (l:List Bool) (i:Nat) (h:l[i]? =some false):((l.set i true).filter (fun b=> !b)).length+1=(l.filter (fun b=> !b)).length:=by
 induction l generalizing i with
 |nil=>simp at h
 |cons b r ih =>
  cases i with
  |zero =>
   simp at h
   subst h
   simp
  |succ i =>
   have:=ih i (by simpa using h)
   cases b<;>simp[List.filter_cons]at this ⊢<;> omega
theorem cntF_set (l:Array Bool) (i:Nat) (h:l[i]? =some false):cntF (l.setIfInBounds i true)+1=cntF l:=by
 unfold cntF
 rw[Array.toList_setIfInBounds]
 exact cntF_list l.toList i (by simpa using h)
theorem ready_false {md:Region.Mode} {ops:Array Oper} {l:Array Bool} {i:Nat} (h:i∈Region.ready md ops l):l[i]? =some false:=by
 unfold Region.ready at h
 rw[List.mem_filter]at h
 have h2:=h.2
 rw[Bool.and_eq_true]at h2
 have h3:=h2.1
 cases hl:l[i]? with
 |none=>rw[Array.getD_eq_getD_getElem?,hl]at h3;simp at h3
 |some b=>rw[Array.getD_eq_getD_getElem?,hl]at h3;simp at h3;rw[h3]
def upd (x:Nat→Value) (i:Nat) (v:Value):Nat→Value:=fun j=>if j=i then v else x j
section
variable {P:Program} {ops:Array Oper} {Q:Exit→Act→World→Prop} {md:Region.Mode}
theorem any_inv (I:Array Bool→Act→World→Prop)
  (step:∀l a w i,I l a w→i∈Region.ready md ops l→wpOp P ops Q i (fun a' w' =>I (l.setIfInBounds i true) a' w') a w) (fin:∀l a w,I l a w→Region.ready md ops l=[]→Q .normal a w) :
  ∀(fuel:Nat) (l:Array Bool) (a:Act) (w:World),cntF l≤fuel→I l a w→wpAny P md ops Q fuel l a w
 |0,l,a,w,hc,h=>by
  have hr:Region.ready md ops l=[]:=by
   cases hr:Region.ready md ops l with
   |nil=>rfl
   |cons i r =>
    have hf:=ready_false (show i∈Region.ready md ops l by rw[hr];simp)
    have:=cntF_set l i hf
    omega
  exact ⟨hr,fin l a w h hr⟩
 |fuel+1,l,a,w,hc,h=>by
  refine ⟨fun hr=>fin l a w h hr,fun i hi=> ?_⟩
  refine wpOp_mono (fun a' w' h' =>any_inv I step fin fuel _ a' w' ?_ h') (step l a w i h hi)
  have:=cntF_set l i (ready_false hi)
  omega
theorem ready_deps {l:Array Bool} {i:Nat} {o:Oper} (h:i∈Region.ready md ops l) (ho:ops[i]? =some o):∀e∈o.after,Region.binds md e=true→l.getD e.on false=true:=by
 unfold Region.ready at h
 have h2:=(List.mem_filter.1 h).2
 rw[Bool.and_eq_true,ho]at h2
 intro e he hb
 have h3:(o.after.all fun e=> !Region.binds md e || l.getD e.on false)=true:=h2.2
 have:=(Array.all_eq_true_iff_forall_mem.1 h3) e he
 simpa[hb]using this
theorem cntF_repl (n:Nat):cntF (Array.replicate n false)≤n:=by
 unfold cntF
 refine Nat.le_trans (List.length_filter_le _ _) ?_
 simp
theorem region_slots (fr:(Nat→Value)→Act) (C:Nat→Value→World→Prop) (W0:World)
  (hlow:(List.range ops.size).all (fun i=>((ops[i]?).map fun o=>o.after.all fun e=> !Region.binds md e || decide (e.on<i)).getD true)=true)
  (hput:∀i o x v,ops[i]? =some o→(fr x).put o.dst v=fr (upd x i v))
  (hC:∀i v w w',C i v w→Below w.heap.size w w' →C i v w')
  (step:∀i o x w J,ops[i]? =some o→Below W0.heap.size W0 w→(∀e∈o.after,Region.binds md e=true→C e.on (x e.on) w)→(∀v w',C i v w' →Below w.heap.size w w' →J ((fr x).put o.dst v) w')→wpOp P ops Q i J (fr x) w)
  (fin:∀x w,Below W0.heap.size W0 w→(∀i,i<ops.size→C i (x i) w)→Q .normal (fr x) w) (x0:Nat→Value) :
  wpAny P md ops Q ops.size (Array.replicate ops.size false) (fr x0) W0:=by
 refine any_inv (I:=fun l a w=>l.size=ops.size∧Below W0.heap.size W0 w∧∃x,a=fr x∧∀i,l.getD i false=true→C i (x i) w) ?_ ?_ _ _ _ _ (cntF_repl _) ⟨by simp,Below.refl _ _,x0,rfl,fun i hi=>by
  rw[Array.getD_eq_getD_getElem?]at hi
  by_cases h:i<ops.size
  ·simp[h]at hi
  ·simp[h]at hi⟩
 ·rintro l a w i ⟨hl,hB,x,rfl,hx⟩ hi
  have hif:=ready_false hi
  have hil:i<ops.size:=by rw[←hl];exact (Array.getElem?_eq_some_iff.1 hif).1
  have ho:ops[i]? =some ops[i]:=Array.getElem?_eq_getElem hil
  refine step i ops[i] x w _ ho hB (fun e he hb=>hx _ (ready_deps hi ho e he hb)) (fun v w' hv hw=> ?_)
  rw[hput i _ x v ho]
  refine ⟨by simp[hl],below_step hB hw,_,rfl,fun j hj=> ?_⟩
  unfold upd
  by_cases hji:j=i
  ·subst hji
   rw[if_pos rfl]
   exact hv
  ·rw[if_neg hji]
   refine hC _ _ _ _ (hx j ?_) hw
   rw[Array.getD_eq_getD_getElem?,Array.getElem?_setIfInBounds_ne (by omega)]at hj
   rw[Array.getD_eq_getD_getElem?]
   exact hj
 ·rintro l a w ⟨hl,hB,x,rfl,hx⟩ hr
  refine fin x w hB ?_
  have hall:∀(n i:Nat),i<n→i<ops.size→l.getD i false=true:=by
   intro n
   induction n with
   |zero=>intro i hi;omega
   |succ n ih =>
    intro i hi his
    by_cases hli:l.getD i false=true
    ·exact hli
    ·exfalso
     have hmem:i∈Region.ready md ops l:=by
      unfold Region.ready
      refine List.mem_filter.2 ⟨List.mem_range.2 his,?_⟩
      have ho:ops[i]? =some ops[i]:=Array.getElem?_eq_getElem his
      have hlo:=List.all_eq_true.1 hlow i (List.mem_range.2 his)
      rw[ho]at hlo ⊢
      rw[Bool.and_eq_true]
      constructor
      ·have hil:i<l.size:=by omega
       rw[Array.getD_eq_getD_getElem?]at hli ⊢
       rw[Array.getElem?_eq_getElem hil]at hli ⊢
       simpa using hli
      ·show (ops[i].after.all fun e=> !Region.binds md e || l.getD e.on false)=true
       refine Array.all_eq_true_iff_forall_mem.2 fun e he=> ?_
       have h4:=(Array.all_eq_true_iff_forall_mem.1 (show (ops[i].after.all fun e=> !Region.binds md e || decide (e.on<i))=true from hlo)) e he
       rw[Bool.or_eq_true]at h4 ⊢
       rcases h4 with h4 | h4
       ·exact .inl h4
       ·have:=of_decide_eq_true h4
        exact .inr (ih e.on (by omega) (by omega))
     rw[hr]at hmem
     cases hmem
  exact fun i hi=>hx i (hall (i+1) i (by omega) hi)
def Dep (md:Region.Mode) (ops:Array Oper) (i j:Nat):Bool:=((ops[j]?).map fun o=>o.after.any fun e=>Region.binds md e && (e.on == i)).getD false
theorem all_of_none {l:Array Bool} (hl:l.size=ops.size) (hlow:(List.range ops.size).all (fun i=>((ops[i]?).map fun o=>o.after.all fun e=> !Region.binds md e || decide (e.on<i)).getD true)=true) (hr:Region.ready md ops l=[]):∀(n i:Nat),i<n→i<ops.size→l.getD i false=true:=by
 intro n
 induction n with
 |zero=>intro i hi;omega
 |succ n ih =>
  intro i hi his
  by_cases hli:l.getD i false=true
  ·exact hli
  ·exfalso
   have hmem:i∈Region.ready md ops l:=by
    unfold Region.ready
    refine List.mem_filter.2 ⟨List.mem_range.2 his,?_⟩
    have ho:ops[i]? =some ops[i]:=Array.getElem?_eq_getElem his
    have hlo:=List.all_eq_true.1 hlow i (List.mem_range.2 his)
    rw[ho]at hlo ⊢
    rw[Bool.and_eq_true]
    constructor
    ·have hil:i<l.size:=by omega
     rw[Array.getD_eq_getD_getElem?]at hli ⊢
     rw[Array.getElem?_eq_getElem hil]at hli ⊢
     simpa using hli
    ·show (ops[i].after.all fun e=> !Region.binds md e || l.getD e.on false)=true
     refine Array.all_eq_true_iff_forall_mem.2 fun e he=> ?_
     have h4:=(Array.all_eq_true_iff_forall_mem.1 (show (ops[i].after.all fun e=> !Region.binds md e || decide (e.on<i))=true from hlo)) e he
     rw[Bool.or_eq_true]at h4 ⊢
     rcases h4 with h4 | h4
     ·exact .inl h4
     ·have:=of_decide_eq_true h4
      exact .inr (ih e.on (by omega) (by omega))
   rw[hr]at hmem
   cases hmem
def Closed (md:Region.Mode) (ops:Array Oper) (l:Array Bool):Prop:=∀j,l.getD j false=true→∀i,Dep md ops i j=true→l.getD i false=true
theorem dep_mem {i j:Nat} {o:Oper} (ho:ops[j]? =some o) (h:Dep md ops i j=true):∃e∈o.after,Region.binds md e=true∧e.on=i:=by
 unfold Dep at h
 rw[ho]at h
 have h:(o.after.any fun e=>Region.binds md e && (e.on == i))=true:=h
 rw[Array.any_eq_true]at h
 obtain ⟨k,hk,he⟩:=h
 rw[Bool.and_eq_true]at he
 exact ⟨o.after[k],Array.getElem_mem hk,he.1,eq_of_beq he.2⟩
theorem getD_set {l:Array Bool} {i j:Nat} (h:j≠i):(l.setIfInBounds i true).getD j false=l.getD j false:=by
 rw[Array.getD_eq_getD_getElem?,Array.getElem?_setIfInBounds_ne (by omega),Array.getD_eq_getD_getElem?]
theorem getD_set_same {l:Array Bool} {i:Nat} (h:i<l.size):(l.setIfInBounds i true).getD i false=true:=by
 rw[Array.getD_eq_getD_getElem?,Array.getElem?_setIfInBounds_self_of_lt h]
 rfl
theorem Closed.set {l:Array Bool} {i:Nat} {o:Oper} (h:Closed md ops l) (ho:ops[i]? =some o) (hi:i∈Region.ready md ops l) (hil:i<l.size):Closed md ops (l.setIfInBounds i true):=by
 intro j hj k hk
 by_cases hki:k=i
 ·subst hki;exact getD_set_same hil
 ·rw[getD_set hki]
  by_cases hji:j=i
  ·subst hji
   obtain ⟨e,he,hb,rfl⟩:=dep_mem ho hk
   exact ready_deps hi ho e he hb
  ·rw[getD_set hji]at hj
   exact h j hj k hk
theorem region_last (L:Nat) (hL:ops.size=L+1) (fr:(Nat→Value)→Act) (C:Nat→Value→World→Prop) (W0:World)
  (hlow:(List.range ops.size).all (fun i=>((ops[i]?).map fun o=>o.after.all fun e=> !Region.binds md e || decide (e.on<i)).getD true)=true)
  (hto:(List.range L).all (fun i=>(List.range ops.size).any fun j=>decide (i<j) && Dep md ops i j)=true)
  (hput:∀i o x v,i<L→ops[i]? =some o→(fr x).put o.dst v=fr (upd x i v))
  (hC:∀i v w w',C i v w→Below w.heap.size w w' →C i v w')
  (step:∀i o x w J,i<L→ops[i]? =some o→Below W0.heap.size W0 w→(∀e∈o.after,Region.binds md e=true→C e.on (x e.on) w)→(∀v w',C i v w' →Below w.heap.size w w' →J ((fr x).put o.dst v) w')→wpOp P ops Q i J (fr x) w)
  (last:∀o x w,ops[L]? =some o→Below W0.heap.size W0 w→(∀i,i<L→C i (x i) w)→wpOp P ops Q L (fun a' w' =>Q .normal a' w') (fr x) w) (x0:Nat→Value) :
  wpAny P md ops Q ops.size (Array.replicate ops.size false) (fr x0) W0:=by
 have hrep:∀i,(Array.replicate ops.size false).getD i false=false:=fun i=>by
  rw[Array.getD_eq_getD_getElem?]
  by_cases h:i<ops.size<;>simp[h]
 refine any_inv (I:=fun l a w=>l.size=ops.size∧((l.getD L false=false∧Closed md ops l∧Below W0.heap.size W0 w∧∃x,a=fr x∧∀i,l.getD i false=true→C i (x i) w)∨((∀i,i<ops.size→l.getD i false=true)∧Q .normal a w))) ?_ ?_ _ _ _ _ (cntF_repl _) ⟨by simp,.inl ⟨hrep L,fun j hj=>(by rw[hrep]at hj;cases hj),Below.refl _ _,x0,rfl,fun i hi=>by rw[hrep]at hi;cases hi⟩⟩
 ·rintro l a w i ⟨hl,h⟩ hi
  have hif:=ready_false hi
  have hil:i<l.size:=(Array.getElem?_eq_some_iff.1 hif).1
  have ho:ops[i]? =some ops[i]:=Array.getElem?_eq_getElem (by omega)
  rcases h with ⟨hLf,hcl,hB,x,rfl,hx⟩ | ⟨hall,hq⟩
  ·by_cases hiL:i=L
   ·subst hiL
    have hcl2:=hcl.set ho hi hil
    have hothers:∀(n j:Nat),i-j<n→j<i→(l.setIfInBounds i true).getD j false=true:=by
     intro n
     induction n with
     |zero=>intro j hj;omega
     |succ n ih =>
      intro j hj hji
      have h1:=List.all_eq_true.1 hto j (List.mem_range.2 hji)
      obtain ⟨k,hk,hk2⟩:=List.any_eq_true.1 h1
      rw[Bool.and_eq_true]at hk2
      have hjk:=of_decide_eq_true hk2.1
      have hks:=List.mem_range.1 hk
      refine hcl2 k ?_ j hk2.2
      by_cases hki:k=i
      ·subst hki;exact getD_set_same hil
      ·exact ih k (by omega) (by omega)
    refine wpOp_mono (fun a' w' h' =>⟨by simp[hl],.inr ⟨fun j hj=> ?_,h'⟩⟩) (last _ x w ho hB (fun j hj=>hx j ?_))
    ·by_cases hji:j=i
     ·subst hji;exact getD_set_same hil
     ·exact hothers (i-j+1) j (by omega) (by omega)
    ·have:=hothers (i-j+1) j (by omega) hj
     rwa [getD_set (by omega)]at this
   ·refine step i ops[i] x w _ (by omega) ho hB (fun e he hb=>hx _ (ready_deps hi ho e he hb)) (fun v w' hv hw=> ?_)
    rw[hput i _ x v (by omega) ho]
    refine ⟨by simp[hl],.inl ⟨by rw[getD_set (by omega)];exact hLf,hcl.set ho hi hil,below_step hB hw,_,rfl,fun j hj=> ?_⟩⟩
    unfold upd
    by_cases hji:j=i
    ·subst hji
     rw[if_pos rfl]
     exact hv
    ·rw[if_neg hji]
     refine hC _ _ _ _ (hx j ?_) hw
     rwa [getD_set hji]at hj
  ·exfalso
   have:=hall i (by omega)
   rw[Array.getD_eq_getD_getElem?,hif]at this
   cases this
 ·rintro l a w ⟨hl,h⟩ hr
  rcases h with ⟨hLf,_⟩ | ⟨_,hq⟩
  ·have:=all_of_none hl hlow hr (L+1) L (by omega) (by omega)
   rw[hLf]at this
   cases this
  ·exact hq
theorem region_two (L:Nat) (hL:L<ops.size) (fr:(Nat→Value)→Act) (par:Nat→Nat) (late:Nat→Bool) (C:Nat→Value→Value→World→Prop) (Pf:Nat→Value→Value→Prop) (p q:Nat) (E:Value→Value→World→Prop) (D:Value→World→Prop) (W0:World)
  (hlow:(List.range ops.size).all (fun i=>((ops[i]?).map fun o=>o.after.all fun e=> !Region.binds md e || decide (e.on<i)).getD true)=true)
  (hto:(List.range L).all (fun i=>late i || (List.range (L+1)).any fun j=>decide (i<j) && Dep md ops i j && !(late j))=true)
  (hbe:(List.range ops.size).all (fun j=>decide (j≤L) || Dep md ops L j)=true)
  (hpar:(List.range ops.size).all (fun i=>par i == i || (Dep md ops (par i) i && !(i == L) && !(par i == L)))=true)
  (hll:late L=false)
  (hput:∀i o x v,ops[i]? =some o→(fr x).put o.dst v=fr (upd x i v))
  (hCP:∀i v u w,C i v u w→Pf i v u)
  (hC:∀i v u w w',C i v u w→Below w.heap.size w w' →C i v u w')
  (hE:∀v u w w',E v u w→Below w.heap.size w w' →E v u w')
  (step:∀i o x w J (dn:Nat→Bool),i<L→ops[i]? =some o→Below W0.heap.size W0 w→(∀e∈o.after,Region.binds md e=true→C e.on (x e.on) (x (par e.on)) w)→(∀j,dn j=true→j<L→C j (x j) (x (par j)) w) →
   (∀v w',C i v (upd x i v (par i)) w' →(i=p→dn q=true→E v (x q) w')→(i=q→dn p=true→E (x p) v w')→Below w.heap.size w w' →J ((fr x).put o.dst v) w')→wpOp P ops Q i J (fr x) w)
  (hpq:p<L∧q<L∧p≠q∧late p=false∧late q=false)
  (mid:∀o x w J,ops[L]? =some o→Below W0.heap.size W0 w→(∀i,i<L→late i=false→C i (x i) (x (par i)) w)→E (x p) (x q) w→(∀v w',D (x q) w' →J ((fr x).put o.dst v) w')→wpOp P ops Q L J (fr x) w)
  (step2:∀i o x w J,(late i=true∨L<i)→ops[i]? =some o→(∀e∈o.after,Region.binds md e=true→e.on≠L→Pf e.on (x e.on) (x (par e.on)))→(∀v,Pf i v (upd x i v (par i))→J ((fr x).put o.dst v) w)→wpOp P ops Q i J (fr x) w)
  (fin:∀x w,(∀i,i<ops.size→i≠L→Pf i (x i) (x (par i)))→D (x q) w→Q .normal (fr x) w) (x0:Nat→Value) :
  wpAny P md ops Q ops.size (Array.replicate ops.size false) (fr x0) W0:=by
 have hrep:∀i,(Array.replicate ops.size false).getD i false=false:=fun i=>by
  rw[Array.getD_eq_getD_getElem?]
  by_cases h:i<ops.size<;>simp[h]
 have hparne:∀(l:Array Bool) i j,Closed md ops l→l.size=ops.size→l.getD j false=true→l.getD i false=false→j≠i→par j≠i:=by
  intro l i j hcl hl hj hig hji h
  have hjs:j<ops.size:=by
   by_cases h:j<l.size
   ·omega
   ·rw[Array.getD_eq_getD_getElem?,Array.getElem?_eq_none (by omega)]at hj;cases hj
  have h1:=List.all_eq_true.1 hpar j (List.mem_range.2 hjs)
  rw[Bool.or_eq_true]at h1
  rcases h1 with h1 | h1
  ·exact hji ((eq_of_beq h1).symm.trans h)
  ·rw[Bool.and_eq_true,Bool.and_eq_true]at h1
   have h2:=hcl j hj _ h1.1.1
   rw[h,hig]at h2
   cases h2
 have hparL:∀j,j<ops.size→j≠L→par j≠L:=by
  intro j hjs hj h
  have h1:=List.all_eq_true.1 hpar j (List.mem_range.2 hjs)
  rw[Bool.or_eq_true]at h1
  rcases h1 with h1 | h1
  ·exact hj ((eq_of_beq h1).symm.trans h)
  ·rw[Bool.and_eq_true]at h1
   rw[h]at h1
   simp at h1
 refine any_inv (I:=fun l a w=>l.size=ops.size∧Closed md ops l∧∃x,a=fr x∧(((∀j,L≤j→l.getD j false=false)∧Below W0.heap.size W0 w∧(∀i,l.getD i false=true→C i (x i) (x (par i)) w)∧(l.getD p false=true→l.getD q false=true→E (x p) (x q) w))∨(l.getD L false=true∧(∀i,i<L→late i=false→l.getD i false=true)∧(∀i,l.getD i false=true→i≠L→Pf i (x i) (x (par i)))∧D (x q) w))) ?_ ?_ _ _ _ _ (cntF_repl _) ⟨by simp,fun j hj=>(by rw[hrep]at hj;cases hj),x0,rfl,.inl ⟨fun j _=>hrep j,Below.refl _ _,fun i hi=>(by rw[hrep]at hi;cases hi),fun hp=>(by rw[hrep]at hp;cases hp)⟩⟩
 ·rintro l a w i ⟨hl,hcl,x,rfl,h⟩ hi
  have hif:=ready_false hi
  have hil:i<l.size:=(Array.getElem?_eq_some_iff.1 hif).1
  have hig:l.getD i false=false:=by rw[Array.getD_eq_getD_getElem?,hif];rfl
  have ho:ops[i]? =some ops[i]:=Array.getElem?_eq_getElem (by omega)
  have hcl2:=hcl.set ho hi hil
  have hne:∀v j,j≠i→upd x i v j=x j:=fun v j hj=>by unfold upd;rw[if_neg hj]
  have hself:∀v,upd x i v i=v:=fun v=>by unfold upd;rw[if_pos rfl]
  have hone:l.getD L false=true→L≠i:=fun h e=>by rw[e,hig]at h;cases h
  rcases h with ⟨hLf,hB,hx,hEx⟩ | ⟨hLt,hall,hx,hD⟩
  ·by_cases hiL:L≤i
   ·have hiE:i=L:=by
     by_cases h:i=L
     ·exact h
     ·exfalso
      have h1:=List.all_eq_true.1 hbe i (List.mem_range.2 (by omega))
      rw[Bool.or_eq_true]at h1
      rcases h1 with h1 | h1
      ·have:=of_decide_eq_true h1;omega
      ·have h2:=hcl2 i (getD_set_same hil) L h1
       rw[getD_set (by omega)]at h2
       rw[hLf L (Nat.le_refl _)]at h2
       cases h2
    subst hiE
    have hothers:∀(n j:Nat),i-j<n→j<i→late j=false→(l.setIfInBounds i true).getD j false=true:=by
     intro n
     induction n with
     |zero=>intro j hj;omega
     |succ n ih =>
      intro j hj hji hlj
      have h1:=List.all_eq_true.1 hto j (List.mem_range.2 hji)
      rw[hlj,Bool.false_or]at h1
      obtain ⟨k,hk,hk2⟩:=List.any_eq_true.1 h1
      rw[Bool.and_eq_true,Bool.and_eq_true,Bool.not_eq_true']at hk2
      have hjk:=of_decide_eq_true hk2.1.1
      have hks:=List.mem_range.1 hk
      refine hcl2 k ?_ j hk2.1.2
      by_cases hki:k=i
      ·subst hki;exact getD_set_same hil
      ·exact ih k (by omega) (by omega) hk2.2
    have hall:∀j,j<i→late j=false→l.getD j false=true:=fun j hj hlj=>by
     have:=hothers (i-j+1) j (by omega) hj hlj
     rwa [getD_set (by omega)]at this
    refine mid ops[i] x w _ ho hB (fun j hj hlj=>hx j (hall j hj hlj)) (hEx (hall p hpq.1 hpq.2.2.2.1) (hall q hpq.2.1 hpq.2.2.2.2)) (fun v w' hD=> ?_)
    rw[hput i _ x v ho]
    refine ⟨by simp[hl],hcl2,_,rfl,.inr ⟨getD_set_same hil,fun j hj hlj=>by rw[getD_set (by omega)];exact hall j hj hlj,fun j hj hjL=> ?_,?_⟩⟩
    ·rw[getD_set hjL]at hj
     have hjs:j<ops.size:=by
      by_cases h:j<l.size
      ·omega
      ·rw[Array.getD_eq_getD_getElem?,Array.getElem?_eq_none (by omega)]at hj;cases hj
     rw[hne v j hjL,hne v _ (hparL j hjs hjL)]
     exact hCP _ _ _ _ (hx j hj)
    ·rw[hne v q (by omega)]
     exact hD
   ·refine step i ops[i] x w _ (fun j=>l.getD j false) (by omega) ho hB (fun e he hb=>hx _ (ready_deps hi ho e he hb)) (fun j hj _=>hx j hj) (fun v w' hv hEp hEq hw=> ?_)
    rw[hput i _ x v ho]
    refine ⟨by simp[hl],hcl2,_,rfl,.inl ⟨fun j hj=>by rw[getD_set (by omega)];exact hLf j hj,below_step hB hw,fun j hj=> ?_,fun hp hq=> ?_⟩⟩
    ·by_cases hji:j=i
     ·subst hji
      rw[hself]
      exact hv
     ·rw[getD_set hji]at hj
      rw[hne v j hji,hne v _ (hparne l i j hcl hl hj hig hji)]
      exact hC _ _ _ _ _ (hx j hj) hw
    ·by_cases hpi:p=i
     ·subst hpi
      rw[getD_set (fun h=>hpq.2.2.1 h.symm)]at hq
      rw[hself,hne v q (fun h=>hpq.2.2.1 h.symm)]
      exact hEp rfl hq
     ·by_cases hqi:q=i
      ·subst hqi
       rw[getD_set hpi]at hp
       rw[hself,hne v p hpi]
       exact hEq rfl hp
      ·rw[getD_set hpi]at hp
       rw[getD_set hqi]at hq
       rw[hne v p hpi,hne v q hqi]
       exact hE _ _ _ _ (hEx hp hq) hw
  ·have hiL:late i=true∨L<i:=by
    by_cases h:L<i
    ·exact .inr h
    ·by_cases hi2:late i=true
     ·exact .inl hi2
     ·exfalso
      have:L≠i:=hone hLt
      have:=hall i (by omega) (by simpa using hi2)
      rw[hig]at this
      cases this
   have hqi:q≠i:=fun e=>by
    have:=hall q hpq.2.1 hpq.2.2.2.2
    rw[e,hig]at this
    cases this
   refine step2 i ops[i] x w _ hiL ho (fun e he hb hne=>hx _ (ready_deps hi ho e he hb) hne) (fun v hv=> ?_)
   rw[hput i _ x v ho]
   refine ⟨by simp[hl],hcl2,_,rfl,.inr ⟨by rw[getD_set (hone hLt)];exact hLt,fun j hj hlj=> ?_,fun j hj hjL=> ?_,?_⟩⟩
   ·by_cases hji:j=i
    ·subst hji;exact getD_set_same hil
    ·rw[getD_set hji];exact hall j hj hlj
   ·by_cases hji:j=i
    ·subst hji
     rw[hself]
     exact hv
    ·rw[getD_set hji]at hj
     rw[hne v j hji,hne v _ (hparne l i j hcl hl hj hig hji)]
     exact hx j hj hjL
   ·rw[hne v q hqi]
    exact hD
 ·rintro l a w ⟨hl,hcl,x,rfl,h⟩ hr
  have hdone:∀i,i<ops.size→l.getD i false=true:=fun i hi=>all_of_none hl hlow hr (i+1) i (by omega) hi
  rcases h with ⟨hLf,_⟩ | ⟨_,_,hx,hD⟩
  ·have:=hdone L hL
   rw[hLf L (Nat.le_refl _)]at this
   cases this
  ·exact fin x w (fun i hi hiL=>hx i (hdone i hi) hiL) hD
theorem op_value {i:Nat} {o:Oper} {J:Act→World→Prop} {a:Act} {w w' :World} {v:Value} (hi:ops[i]? =some o) (hw:Region.wanted o (yielded ops a.tmps)=true) (hrun:(execOp a.eval o).run P w= .ok (.value v) w') (h:J (a.put o.dst v) w'):wpOp P ops Q i J a w:=by
 refine wpOp_step hi (fun K hK=> ?_)
 rw[if_pos hw]
 unfold Oper.wp
 rw[hrun]
 exact hK _ _ h
theorem op_skip {i:Nat} {o:Oper} {J:Act→World→Prop} {a:Act} {w:World} (hi:ops[i]? =some o) (hw:Region.wanted o (yielded ops a.tmps)=false) (h:J (a.put o.dst undef) w):wpOp P ops Q i J a w:=by
 refine wpOp_step hi (fun K hK=> ?_)
 rw[if_neg (by rw[hw];simp)]
 exact hK _ _ h
theorem op_call {i:Nat} {o:Oper} {J:Act→World→Prop} {a:Act} {w:World} {f:FuncId} {args:Array Value} (hi:ops[i]? =some o) (hw:Region.wanted o (yielded ops a.tmps)=true) (hrun:(execOp a.eval o).run P w= .ok (.enter f args) w)
  (h:Calls P f args w fun e w' =>∃v,e= .returned v∧J (a.put o.dst v) w'):wpOp P ops Q i J a w:=by
 refine wpOp_step hi (fun K hK=> ?_)
 rw[if_pos hw]
 unfold Oper.wp
 rw[hrun]
 refine h.mono fun e w' hh=> ?_
 obtain ⟨v,rfl,hv⟩:=hh
 exact hK _ _ hv
theorem wanted_none {o:Oper} {y:Nat→Option Bool} (hg:o.guard=none):Region.wanted o y=true:=by unfold Region.wanted;rw[hg]
theorem wanted_if {o:Oper} {tmps:Array Value} {j:Nat} {want b:Bool} (hg:o.guard=some (j,want)) (h:((ops[j]?).bind (·.dst)).bind (tmps[·]?)=some (.bool b)):Region.wanted o (yielded ops tmps)=(b == want):=by
 unfold Region.wanted
 rw[hg]
 show (yielded ops tmps j == some want)=_
 unfold yielded
 rw[h]
 cases b<;>cases want<;>rfl
theorem op_callP {i:Nat} {o:Oper} {J:Act→World→Prop} {a:Act} {w:World} {f:FuncId} {args:Array Value} (hi:ops[i]? =some o) (hw:Region.wanted o (yielded ops a.tmps)=true) (hrun:(execOp a.eval o).run P w= .ok (.enter f args) w)
  (h:Calls P f args w fun e w' =>(∃v,e= .returned v∧J (a.put o.dst v) w')∨∃c,e= .panicked c∧Q (.panic c) a w'):wpOp P ops Q i J a w:=by
 refine wpOp_step hi (fun K hK=> ?_)
 rw[if_pos hw]
 unfold Oper.wp
 rw[hrun]
 refine h.mono fun e w' hh=> ?_
 rcases hh with ⟨v,rfl,hv⟩ | ⟨c,rfl,hc⟩
 ·exact hK _ _ hv
 ·exact hc
end
def OnNP (R:Act→World→Prop) (RP:World→Prop):Exit→Act→World→Prop
 |.normal,a,w=>R a w
 |.panic c,a,w=>c=failV∧a.defers=[]∧RP w
 |_,_,_=>False
theorem wp_onNP {P:Program} {c:Code} {Q:Exit→Act→World→Prop} {a:Act} {w:World} (R:Act→World→Prop) (RP:World→Prop) (h:c.wp P (OnNP R RP) a w) (k:∀a' w',R a' w' →Q .normal a' w') (kp:∀a' w',a'.defers=[]→RP w' →Q (.panic failV) a' w'):c.wp P Q a w :=
 Code.wp_mono (fun e a' w' h=>by cases e with
  |normal=>exact k a' w' h
  |panic c=>obtain ⟨rfl,h0,h⟩:=h;exact kp a' w' h0 h
  |_=>exact False.elim h) h
def frN (n:Nat) (g:Nat→Value):Act:={tmps:=((List.range n).map g).toArray,defers:=[]}
def sl (x f:Nat→Value) (ks:List Nat):Nat→Value:=fun j=>match ks.idxOf? j with | some i=>x i | none=>f j
theorem frN_put {n k:Nat} {g:Nat→Value} {v:Value} (h:k<n):(frN n g).put (some k) v=frN n (upd g k v):=by
 unfold frN
 show ({tmps:=(((List.range n).map g).toArray).setIfInBounds k v,defers:=[]}:Act)=_
 congr 1
 apply Array.ext
 ·simp
 ·intro i h1 h2
  simp only[List.setIfInBounds_toArray,List.getElem_toArray,List.getElem_set,List.getElem_map,List.getElem_range]
  unfold upd
  by_cases hik:k=i
  ·rw[if_pos hik,if_pos hik.symm]
  ·rw[if_neg hik,if_neg (fun h=>hik h.symm)]
theorem idx_inj {ks:List Nat} {i j k:Nat} (h:ks.idxOf? j=some i) (h2:ks.idxOf? k=some i):j=k:=by
 have one:∀{j:Nat},ks.idxOf? j=some i→ks[i]? =some j:=fun {j} h=>by
  rw[List.idxOf?,List.findIdx?_eq_some_iff_getElem]at h
  obtain ⟨hl,he,_⟩:=h
  rw[List.getElem?_eq_getElem hl]
  exact congrArg some (eq_of_beq he)
 exact Option.some.inj ((one h).symm.trans (one h2))
theorem sl_put {x f:Nat→Value} {ks:List Nat} {k i:Nat} {v:Value} (h:ks.idxOf? k=some i):upd (sl x f ks) k v=sl (upd x i v) f ks:=by
 funext j
 unfold upd sl
 by_cases hj:j=k
 ·subst hj
  rw[if_pos rfl,h]
  exact (if_pos rfl).symm
 ·rw[if_neg hj]
  cases hi:ks.idxOf? j with
  |none=>rfl
  |some i' =>
   show x i' =if i' =i then v else x i'
   have hne:i' ≠i:=fun e=>hj (idx_inj (show ks.idxOf? j=some i by rw[hi,e]) h)
   rw[if_neg hne]
theorem sl_none {x f:Nat→Value} {ks:List Nat} {n i:Nat} {v:Value} (h:(List.range n).all (fun j=> !(ks.idxOf? j == some i))=true):frN n (sl x f ks)=frN n (sl (upd x i v) f ks):=by
 unfold frN
 congr 2
 apply List.map_congr_left
 intro j hj
 have h1:=List.all_eq_true.1 h j hj
 unfold sl upd
 cases hi:ks.idxOf? j with
 |none=>rfl
 |some i' =>
  show x i' =if i' =i then v else x i'
  rw[if_neg (fun e=>by rw[hi,e]at h1;simp at h1)]
def fitB (ops:Array Oper) (n:Nat) (ks:List Nat):Bool:=(List.range ops.size).all fun i=>match (ops[i]?).bind (·.dst)with
 |some k=>decide (k<n) && (ks.idxOf? k == some i)
 |none=>(List.range n).all fun j=> !(ks.idxOf? j == some i)
theorem fit_put {ops:Array Oper} {n:Nat} {ks:List Nat} (h:fitB ops n ks=true) (f:Nat→Value):∀i o x v,ops[i]? =some o→(frN n (sl x f ks)).put o.dst v=frN n (sl (upd x i v) f ks):=by
 intro i o x v ho
 have hi:i<ops.size:=(Array.getElem?_eq_some_iff.1 ho).1
 have h1:=List.all_eq_true.1 h i (List.mem_range.2 hi)
 rw[ho]at h1
 cases hd:o.dst with
 |none =>
  have h1:(match o.dst with | some k=>decide (k<n) && (ks.idxOf? k == some i) | none=>(List.range n).all fun j=> !(ks.idxOf? j == some i))=true:=h1
  rw[hd]at h1
  exact sl_none h1
 |some k =>
  have h1:(match o.dst with | some k=>decide (k<n) && (ks.idxOf? k == some i) | none=>(List.range n).all fun j=> !(ks.idxOf? j == some i))=true:=h1
  rw[hd]at h1
  rw[Bool.and_eq_true]at h1
  rw[frN_put (of_decide_eq_true h1.1),sl_put (eq_of_beq h1.2)]
structure Kn where
 In:Value→World→Prop
 st:∀v w w',In v w→Below w.heap.size w w' →In v w'
def Kn.is (v:Value):Kn:=⟨fun x _=>x=v,fun _ _ _ h _=>h⟩
def Kn.top:Kn:=⟨fun _ _=>True,fun _ _ _ _ _=>trivial⟩
def Kn.mn (B:Nat) (o:Option S70):Kn:=⟨fun v w=>∃m,o=some m∧MnV w (fun k=>B≤k) v m,fun _ _ _ h hB=>h.imp fun _ hm=>⟨hm.1,hm.2.below hB⟩⟩
def Kn.fn (o:Option Prd):Kn:=⟨fun v w=>∃f,o=some f∧PrdV w (fun _=>True) v f,fun _ _ _ h hB=>h.imp fun _ hm=>⟨hm.1,hm.2.below hB⟩⟩
def Kn.tms (xs:List Tm):Kn:=⟨fun v w=>∃A c,v= .slice A xs.length c∧xs.length≤c∧Kd.C k79 w A xs.length xs,fun _ _ _ h hB=>by
 obtain ⟨A,c,e,h1,h2⟩:=h
 exact ⟨A,c,e,h1,Kd.C_below h2 hB⟩⟩
def waits (o:Oper) (j:Nat):Bool:=o.after.toList.any fun e=>Region.binds .any e && (e.on == j)
section
variable {ops:Array Oper} {Q:Exit→Act→World→Prop}
def Step1 (ops:Array Oper) (Q:Exit→Act→World→Prop) (fr:(Nat→Value)→Act) (W0:World) (ks:List Kn) (i:Nat) (o:Oper):Prop:=∀x w J,Below W0.heap.size W0 w→(∀j,waits o j=true→(ks.getD j .top).In (x j) w)→(∀v w',(ks.getD i .top).In v w' →Below w.heap.size w w' →J ((fr x).put o.dst v) w')→ops[i]? =some o→wpOp Tryz.prog ops Q i J (fr x) w
def StepsP (ops:Array Oper) (Q:Exit→Act→World→Prop) (fr:(Nat→Value)→Act) (W0:World) (ks:List Kn):List Oper→Nat→Nat→Prop
 |o::r,i,m+1=>Step1 ops Q fr W0 ks i o∧StepsP ops Q fr W0 ks r (i+1) m
 |_,_,_=>True
theorem stepsP_at {fr:(Nat→Value)→Act} {W0:World} {ks:List Kn}:∀(l:List Oper) (i m:Nat),StepsP ops Q fr W0 ks l i m→∀j o,j<m→l[j]? =some o→Step1 ops Q fr W0 ks (i+j) o
 |o::r,i,m+1,h,0,o',hj,ho=>by
  simp at ho
  subst ho
  exact h.1
 |o::r,i,m+1,h,j+1,o',hj,ho=>by
  have:=stepsP_at r (i+1) m h.2 j o' (by omega) (by simpa using ho)
  rwa [Nat.add_assoc,Nat.add_comm 1 j]at this
 | [],_,_,_,_,_,_,ho=>by simp at ho
 |o::r,i,0,_,j,_,hj,_=>by omega
theorem deps_waits {md:Region.Mode} {o:Oper} {C:Nat→Prop} (hmd:md= .any) (h:∀e∈o.after,Region.binds md e=true→C e.on):∀j,waits o j=true→C j:=by
 subst hmd
 intro j hj
 obtain ⟨e,he,hw⟩:=List.any_eq_true.1 (show (o.after.toList.any fun e=>Region.binds .any e && (e.on == j))=true from hj)
 rw[Bool.and_eq_true]at hw
 have:=h e (Array.mem_toList_iff.1 he) hw.1
 rwa [eq_of_beq hw.2]at this
theorem region_kn {id:Nat} (L n:Nat) (ks:List Kn) (KS:List Nat) (f:Nat→Value) (W:World) (hL:ops.size=L+1) (hfit:fitB ops n KS=true)
  (hlow:(List.range ops.size).all (fun i=>((ops[i]?).map fun o=>o.after.all fun e=> !Region.binds .any e || decide (e.on<i)).getD true)=true)
  (hto:(List.range L).all (fun i=>(List.range ops.size).any fun j=>decide (i<j) && Dep .any ops i j)=true)
  (hst:StepsP ops Q (fun x=>frN n (sl x f KS)) W.drew ks ops.toList 0 L)
  (last:∀o x w,ops[L]? =some o→Below W.drew.heap.size W.drew w→(∀i,i<L→(ks.getD i .top).In (x i) w)→wpOp Tryz.prog ops Q L (fun a' w' =>Q .normal a' w') (frN n (sl x f KS)) w) :
  Code.wp Tryz.prog (.region id ops true) Q (frN n f) W:=by
 have e0:frN n f=frN n (sl (fun i=>f (KS.getD i 0)) f KS):=by
  unfold frN
  congr 2
  apply List.map_congr_left
  intro j _
  unfold sl
  cases hi:KS.idxOf? j with
  |none=>rfl
  |some i =>
   show f j=f (KS.getD i 0)
   rw[List.idxOf?,List.findIdx?_eq_some_iff_getElem]at hi
   obtain ⟨hl,he,_⟩:=hi
   rw[List.getD_eq_getElem?_getD,List.getElem?_eq_getElem hl,Option.getD_some,eq_of_beq he]
 rw[e0]
 refine wp_region_any (by kernel_rfl) (region_last L hL (fun x=>frN n (sl x f KS)) (fun i v w=>(ks.getD i .top).In v w) W.drew hlow hto (fun i o x v _ ho=>fit_put hfit f i o x v ho) (fun i v w w' h hB=>(ks.getD i .top).st v w w' h hB) (fun i o x w J hi ho hB hd h=> ?_) last _)
 have h1:=stepsP_at ops.toList 0 L hst i o hi (by simpa using ho)
 rw[Nat.zero_add]at h1
 exact h1 x w J hB (deps_waits rfl hd) h ho
theorem region_kn0 {id:Nat} (n:Nat) (ks:List Kn) (KS:List Nat) (f:Nat→Value) (W:World) (hfit:fitB ops n KS=true)
  (hlow:(List.range ops.size).all (fun i=>((ops[i]?).map fun o=>o.after.all fun e=> !Region.binds .any e || decide (e.on<i)).getD true)=true)
  (hst:StepsP ops Q (fun x=>frN n (sl x f KS)) W.drew ks ops.toList 0 ops.size)
  (fin:∀x w,Below W.drew.heap.size W.drew w→(∀i,i<ops.size→(ks.getD i .top).In (x i) w)→Q .normal (frN n (sl x f KS)) w) :
  Code.wp Tryz.prog (.region id ops true) Q (frN n f) W:=by
 have e0:frN n f=frN n (sl (fun i=>f (KS.getD i 0)) f KS):=by
  unfold frN
  congr 2
  apply List.map_congr_left
  intro j _
  unfold sl
  cases hi:KS.idxOf? j with
  |none=>rfl
  |some i =>
   show f j=f (KS.getD i 0)
   rw[List.idxOf?,List.findIdx?_eq_some_iff_getElem]at hi
   obtain ⟨hl,he,_⟩:=hi
   rw[List.getD_eq_getElem?_getD,List.getElem?_eq_getElem hl,Option.getD_some,eq_of_beq he]
 rw[e0]
 refine wp_region_any (by kernel_rfl) (region_slots (fun x=>frN n (sl x f KS)) (fun i v w=>(ks.getD i .top).In v w) W.drew hlow (fun i o x v ho=>fit_put hfit f i o x v ho) (fun i v w w' h hB=>(ks.getD i .top).st v w w' h hB) (fun i o x w J ho hB hd h=> ?_) fin _)
 have h1:=stepsP_at ops.toList 0 ops.size hst i o (Array.getElem?_eq_some_iff.1 ho).1 (by simpa using ho)
 rw[Nat.zero_add]at h1
 exact h1 x w J hB (deps_waits rfl hd) h ho
end
end
section
attribute [local go_sem] Oper.semAt_some
theorem list_op {P:Program} {ops:Array Oper} {Q:Exit→Act→World→Prop} {i:Nat} {o:Oper} {r:List Oper} {a:Act} {w:World} (hi:ops[i]? =some o) (h:wpOp P ops Q i (fun a' w' =>wpList P ops Q r a' w') a w):wpList P ops Q (o::r) a w:=by
 unfold wpOp at h
 rw[hi]at h
 exact h
section
variable {ops:Array Oper} {Q:Exit→Act→World→Prop} {R:Act→World→Prop} {RP:World→Prop} {i:Nat} {o:Oper} {J:Act→World→Prop} {a:Act} {w:World}
theorem op_mv {k:Tmp} {v:Value} (hi:ops[i]? =some o) (hg:o.guard=none) (ho:o.op= .move (.tmp k)) (ha:a.tmps[k]?.getD undef=v) (h:J (a.put o.dst (v)) w):wpOp Tryz.prog ops Q i J a w:=by
 refine op_value hi (wanted_none hg) (w' :=w) ?_ h
 unfold execOp
 rw[ho]
 go_simp
theorem op_asg {k:Tmp} {v:Value} (hi:ops[i]? =some o) (hg:o.guard=none) (ho:o.op= .assign (.tmp k)) (ha:a.tmps[k]?.getD undef=v) (h:J (a.put o.dst (v)) w):wpOp Tryz.prog ops Q i J a w:=by
 refine op_value hi (wanted_none hg) (w' :=w) ?_ h
 unfold execOp
 rw[ho]
 go_simp
theorem op_ld73 {k:Tmp} {b:Nat} {v:Value} (hi:ops[i]? =some o) (hg:o.guard=none) (ho:o.op= .load 73 (.tmp k)) (ha:a.tmps[k]?.getD undef= .pointer (some ⟨b,0,none⟩)) (hb:BoxAt w b 73 v) (h:J (a.put o.dst (v)) w):wpOp Tryz.prog ops Q i J a w:=by
 have hc:=hb.cell
 refine op_value hi (wanted_none hg) (w' :=w) ?_ h
 unfold execOp
 rw[ho]
 go_simp
theorem op_ld76 {k:Tmp} {b:Nat} {v:Value} (hi:ops[i]? =some o) (hg:o.guard=none) (ho:o.op= .load 76 (.tmp k)) (ha:a.tmps[k]?.getD undef= .pointer (some ⟨b,0,none⟩)) (hb:BoxAt w b 76 v) (h:J (a.put o.dst (v)) w):wpOp Tryz.prog ops Q i J a w:=by
 have hc:=hb.cell
 refine op_value hi (wanted_none hg) (w' :=w) ?_ h
 unfold execOp
 rw[ho]
 go_simp
theorem op_fa {k:Tmp} {b c:Nat} (hi:ops[i]? =some o) (hg:o.guard=none) (ho:o.op= .fieldAddr 30 (.tmp k) 2) (ha:a.tmps[k]?.getD undef= .pointer (some ⟨b,0,none⟩)) (h:J (a.put o.dst (.pointer (some ⟨b,2,none⟩))) w):wpOp Tryz.prog ops Q i J a w:=by
 refine op_value hi (wanted_none hg) (w' :=w) ?_ h
 unfold execOp
 rw[ho]
 go_simp
theorem op_ld28 {k:Tmp} {b:Nat} {v:Value} (hi:ops[i]? =some o) (hg:o.guard=none) (ho:o.op= .load 28 (.tmp k)) (ha:a.tmps[k]?.getD undef= .pointer (some ⟨b,2,none⟩)) (hc:w.cell? ⟨b,2,none⟩=some v) (h:J (a.put o.dst (v)) w):wpOp Tryz.prog ops Q i J a w:=by
 refine op_value hi (wanted_none hg) (w' :=w) ?_ h
 unfold execOp
 rw[ho]
 go_simp
theorem op_ix {k:Tmp} {ad:Addr} {n c:Nat} {j:Int} (hi:ops[i]? =some o) (hg:o.guard=none) (ho:o.op= .indexAddr 28 (.tmp k) (.const (.int .i64 j))) (h0:(0≤j)=True) (h1:(j<n)=True) (ha:a.tmps[k]?.getD undef= .slice (some ad) n c) (h:J (a.put o.dst (.pointer (some (ad.add (j.toNat*3))))) w):wpOp Tryz.prog ops Q i J a w:=by
 refine op_value hi (wanted_none hg) (w' :=w) ?_ h
 unfold execOp
 rw[ho]
 go_simp
theorem op_ldT {k:Tmp} {ad:Addr} {x0 x1 x2:Value} (hi:ops[i]? =some o) (hg:o.guard=none) (ho:o.op= .load 30 (.tmp k)) (ha:a.tmps[k]?.getD undef= .pointer (some ad)) (h0:w.cell? ad=some x0) (h1:w.cell? ⟨ad.block,ad.off+1,none⟩=some x1) (h2:w.cell? ⟨ad.block,ad.off+2,none⟩=some x2) (h:J (a.put o.dst (.agg #[x0,x1,x2])) w):wpOp Tryz.prog ops Q i J a w:=by
 refine op_value hi (wanted_none hg) (w' :=w) ?_ h
 unfold execOp
 rw[ho]
 go_simp
theorem op_ld79 {k:Tmp} {b:Nat} {x:Tm} (hi:ops[i]? =some o) (hg:o.guard=none) (ho:o.op= .load 79 (.tmp k)) (ha:a.tmps[k]?.getD undef= .pointer (some ⟨b,0,none⟩)) (hb:TmAt w b x) (h:J (a.put o.dst (tmV x)) w):wpOp Tryz.prog ops Q i J a w:=by
 unfold TmAt at hb
 have x0:=blk_cell hb 0
 have x1:=blk_cell hb 1
 have x2:=blk_cell hb 2
 have x3:=blk_cell hb 3
 simp at x0 x1 x2 x3
 unfold tmV at h
 refine op_value hi (wanted_none hg) (w' :=w) ?_ h
 unfold execOp
 rw[ho]
 go_simp
theorem op_f37 {n:Int} (hi:ops[i]? =some o) (hg:o.guard=none) (ho:o.op= .build 37 #[(0,.const (.int .i64 n))])  (h:J (a.put o.dst (.agg #[.int .i64 n,.string ⟨#[]⟩,.slice none 0 0,.int .i64 0,.int .i64 0,.slice none 0 0])) w):wpOp Tryz.prog ops Q i J a w:=by
 refine op_value hi (wanted_none hg) (w' :=w) ?_ h
 unfold execOp
 rw[ho]
 go_simp
theorem op_mf {g:FuncId} {ks:Array Operand} {vs:Array Value} (hi:ops[i]? =some o) (hg:o.guard=none) (ho:o.op= .makeFunc (.func g) #[] ks) (ha:ks.map a.eval=vs) (h:J (a.put o.dst (.func (.func g) #[] vs)) w):wpOp Tryz.prog ops Q i J a w:=by
 refine op_value hi (wanted_none hg) (w' :=w) ?_ h
 unfold execOp
 rw[ho]
 go_simp
theorem op_tms1 {k:Tmp} {x:Tm} (hi:ops[i]? =some o) (hg:o.guard=none) (ho:o.op= .buildSlice 164 1 #[(0,.tmp k)]) (h0:a.tmps[k]?.getD undef=tmV x)
  (h:∀v w',(Kn.tms [x]).In v w' →Below w.heap.size w w' →J (a.put o.dst v) w'):wpOp Tryz.prog ops Q i J a w:=by
 unfold tmV at h0
 refine op_value hi (wanted_none hg) (w' :=w.alloc (.cells ([x].flatMap tmCells).toArray 79)) (v:= .slice (some ⟨w.heap.size,0,none⟩) 1 1) ?_ (h _ _ ⟨_,1,rfl,Nat.le_refl _,tms_new (xs:=[x]) rfl (heap_alloc_new w _) (by simp)⟩ (below_alloc (Below.refl _ _) _))
 unfold execOp
 rw[ho]
 simp only[List.flatMap_cons,List.flatMap_nil,tmCells,List.append_nil,List.cons_append,List.nil_append]
 go_simp
theorem op_tms2 {k k2:Tmp} {x y:Tm} (hi:ops[i]? =some o) (hg:o.guard=none) (ho:o.op= .buildSlice 164 2 #[(0,.tmp k),(1,.tmp k2)]) (h0:a.tmps[k]?.getD undef=tmV x) (h1:a.tmps[k2]?.getD undef=tmV y)
  (h:∀v w',(Kn.tms [x,y]).In v w' →Below w.heap.size w w' →J (a.put o.dst v) w'):wpOp Tryz.prog ops Q i J a w:=by
 unfold tmV at h0 h1
 refine op_value hi (wanted_none hg) (w' :=w.alloc (.cells ([x,y].flatMap tmCells).toArray 79)) (v:= .slice (some ⟨w.heap.size,0,none⟩) 2 2) ?_ (h _ _ ⟨_,2,rfl,Nat.le_refl _,tms_new (xs:=[x,y]) rfl (heap_alloc_new w _) (by simp)⟩ (below_alloc (Below.refl _ _) _))
 unfold execOp
 rw[ho]
 simp only[List.flatMap_cons,List.flatMap_nil,tmCells,List.append_nil,List.cons_append,List.nil_append]
 go_simp
theorem op_tms3 {k k2 k3:Tmp} {x y z:Tm} (hi:ops[i]? =some o) (hg:o.guard=none) (ho:o.op= .buildSlice 164 3 #[(0,.tmp k),(1,.tmp k2),(2,.tmp k3)]) (h0:a.tmps[k]?.getD undef=tmV x) (h1:a.tmps[k2]?.getD undef=tmV y) (h2:a.tmps[k3]?.getD undef=tmV z)
  (h:∀v w',(Kn.tms [x,y,z]).In v w' →Below w.heap.size w w' →J (a.put o.dst v) w'):wpOp Tryz.prog ops Q i J a w:=by
 unfold tmV at h0 h1 h2
 refine op_value hi (wanted_none hg) (w' :=w.alloc (.cells ([x,y,z].flatMap tmCells).toArray 79)) (v:= .slice (some ⟨w.heap.size,0,none⟩) 3 3) ?_ (h _ _ ⟨_,3,rfl,Nat.le_refl _,tms_new (xs:=[x,y,z]) rfl (heap_alloc_new w _) (by simp)⟩ (below_alloc (Below.refl _ _) _))
 unfold execOp
 rw[ho]
 simp only[List.flatMap_cons,List.flatMap_nil,tmCells,List.append_nil,List.cons_append,List.nil_append]
 go_simp
theorem op_pm {f:FuncId} {args:Array Value} {r:Option S70} {B:Nat} (hi:ops[i]? =some o) (hg:o.guard=none) (hrun:(execOp a.eval o).run Tryz.prog w= .ok (.enter f args) w) (hc:Calls Tryz.prog f args w (PostM w r)) (had:a.defers=[]) (hp:r=none→∀w',Below w.heap.size w w' →RP w') (hB:B≤w.heap.size)
  (h:∀v w',(Kn.mn B r).In v w' →Below w.heap.size w w' →J (a.put o.dst v) w'):wpOp Tryz.prog ops (OnNP R RP) i J a w:=by
 refine op_callP hi (wanted_none hg) hrun (hc.mono ?_)
 rintro e w' ⟨hb,hr⟩
 cases r with
 |none=>exact .inr ⟨_,hr,rfl,had,hp rfl w' hb⟩
 |some m =>
  obtain ⟨v,rfl,hv⟩:=hr
  exact .inl ⟨v,rfl,h v w' ⟨m,rfl,hv.mono (fun k hk=>Nat.le_trans hB hk)⟩ hb⟩
theorem op_atom {k1 k2 k3 k4:Tmp} {ts:Array TypeId} {bp mb:Nat} {s:Sg} {x:ByteArray} {A3 A4:Option Addr} {n3 c3 n4 c4:Nat} {depth:Int} {xs:List Tm} {v4:Value} {B:Nat} (hi:ops[i]? =some o) (hg:o.guard=none) (ho:o.op= .call {callee:= .value (.func 83),args:= #[.tmp k1,.tmp k2,.tmp k3,.tmp k4],argTypes:=ts})
  (h1:a.tmps[k1]?.getD undef= .pointer (some ⟨bp,0,none⟩)) (h2:a.tmps[k2]?.getD undef= .agg #[.string x,.slice A3 n3 c3,.slice A4 n4 c4]) (h3:a.tmps[k3]?.getD undef= .int .i64 depth) (h4:a.tmps[k4]?.getD undef=v4) (hv:(Kn.tms xs).In v4 w) (hl:xs.length≤1000) (hb:Bld w bp mb s) (had:a.defers=[]) (hp:atomP s.ps x depth xs=none→∀w',Below w.heap.size w w' →RP w') (hB:B≤w.heap.size)
  (h:∀v w',(Kn.mn B (atomP s.ps x depth xs)).In v w' →Below w.heap.size w w' →J (a.put o.dst v) w'):wpOp Tryz.prog ops (OnNP R RP) i J a w:=by
 obtain ⟨A,c,rfl,hlc,hC⟩:=hv
 refine op_pm hi hg ?_ (atom_calls w bp mb s hb x A3 n3 c3 A4 n4 c4 depth A c xs hC hl) had hp hB h
 have he:=enters_of Tryz.func83 (by kernel_rfl) rfl #[.pointer (some ⟨bp,0,none⟩),.agg #[.string x,.slice A3 n3 c3,.slice A4 n4 c4],.int .i64 depth,.slice A xs.length c] w
 unfold execOp
 rw[ho]
 go_simp
theorem op_say {k k1 k2:Tmp} {ts:Array TypeId} {vc:Value} {ok:Nat→Prop} {c:Prd} {depth:Int} {x:Tm} {B:Nat} (hi:ops[i]? =some o) (hg:o.guard=none) (ho:o.op= .call {callee:= .value (.tmp k),args:= #[.tmp k1,.tmp k2],argTypes:=ts})
  (h0:a.tmps[k]?.getD undef=vc) (h1:a.tmps[k1]?.getD undef= .int .i64 depth) (h2:a.tmps[k2]?.getD undef=tmV x) (hc:PrdV w ok vc c) (had:a.defers=[]) (hp:c depth x=none→∀w',Below w.heap.size w w' →RP w') (hB:B≤w.heap.size)
  (h:∀v w',(Kn.mn B (c depth x)).In v w' →Below w.heap.size w w' →J (a.put o.dst v) w'):wpOp Tryz.prog ops (OnNP R RP) i J a w:=by
 obtain ⟨g,cap,rfl,he,hf⟩:=hc
 refine op_pm hi hg ?_ (hf.now depth x) had hp hB h
 have he:=he (#[.int .i64 depth,tmV x]++cap) w
 unfold execOp
 rw[ho]
 go_simp
theorem op_both {k1 k2:Tmp} {ts:Array TypeId} {r1 r2:Option S70} {v1 v2:Value} {B:Nat} (hi:ops[i]? =some o) (hg:o.guard=none) (ho:o.op= .call {callee:= .value (.func 85),args:= #[.tmp k1,.tmp k2],argTypes:=ts}) (h1:a.tmps[k1]?.getD undef=v1) (h2:a.tmps[k2]?.getD undef=v2) (hm1:(Kn.mn B r1).In v1 w) (hm2:(Kn.mn B r2).In v2 w) (hB:B≤w.heap.size)
  (h:∀v w',(Kn.mn B (r1.bind fun m1=>r2.bind fun m2=>some (bothP m1 m2))).In v w' →Below w.heap.size w w' →J (a.put o.dst v) w'):wpOp Tryz.prog ops Q i J a w:=by
 obtain ⟨m1,rfl,hv1⟩:=hm1
 obtain ⟨m2,rfl,hv2⟩:=hm2
 refine op_call hi (wanted_none hg) ?_ ((bothB hB hv1 hv2).mono ?_)
 ·have he:=enters_of Tryz.func85 (by kernel_rfl) rfl #[v1,v2] w
  unfold execOp
  rw[ho]
  go_simp
 ·rintro e w' ⟨⟨v,rfl,hv⟩,hb⟩
  exact ⟨v,rfl,h v w' ⟨_,rfl,hv⟩ hb⟩
theorem op_not {k1:Tmp} {ts:Array TypeId} {r1:Option S70} {v1:Value} {B:Nat} (hi:ops[i]? =some o) (hg:o.guard=none) (ho:o.op= .call {callee:= .value (.func 146),args:= #[.tmp k1],argTypes:=ts}) (h1:a.tmps[k1]?.getD undef=v1) (hm1:(Kn.mn B r1).In v1 w) (hB:B≤w.heap.size)
  (h:∀v w',(Kn.mn B (r1.map notP)).In v w' →Below w.heap.size w w' →J (a.put o.dst v) w'):wpOp Tryz.prog ops Q i J a w:=by
 obtain ⟨m1,rfl,hv1⟩:=hm1
 refine op_call hi (wanted_none hg) ?_ ((notB hB hv1).mono ?_)
 ·have he:=enters_of Tryz.func146 (by kernel_rfl) rfl #[v1] w
  unfold execOp
  rw[ho]
  go_simp
 ·rintro e w' ⟨⟨v,rfl,hv⟩,hb⟩
  exact ⟨v,rfl,h v w' ⟨_,rfl,hv⟩ hb⟩
end
def Kn.mns (B:Nat) (r:Option (List S70)):Kn:=⟨fun v w=>∃ms A,r=some ms∧v= .slice A ms.length ms.length∧ms.length≤1000000∧Kd.F k70 w (fun k=>B≤k) A ms.length ms,fun _ _ _ h hB=>by
 obtain ⟨ms,A,h1,h2,h3,h4⟩:=h
 exact ⟨ms,A,h1,h2,h3,Kd.F_below h4 hB⟩⟩
section
variable {ops:Array Oper} {Q:Exit→Act→World→Prop} {i:Nat} {o:Oper} {J:Act→World→Prop} {a:Act} {w:World}
theorem op_mns2 {k1 k2:Tmp} {r1 r2:Option S70} {v1 v2:Value} {B:Nat} (hi:ops[i]? =some o) (hg:o.guard=none) (ho:o.op= .buildSlice 94 2 #[(0,.tmp k1),(1,.tmp k2)]) (h1:a.tmps[k1]?.getD undef=v1) (h2:a.tmps[k2]?.getD undef=v2) (hm1:(Kn.mn B r1).In v1 w) (hm2:(Kn.mn B r2).In v2 w) (hB:B≤w.heap.size)
  (h:∀v w',(Kn.mns B (r1.bind fun m1=>r2.bind fun m2=>some [m1,m2])).In v w' →Below w.heap.size w w' →J (a.put o.dst v) w'):wpOp Tryz.prog ops Q i J a w:=by
 obtain ⟨m,rfl,hv1⟩:=hm1
 obtain ⟨y,rfl,hv2⟩:=hm2
 obtain ⟨A2,c2,A5,c5,rfl,q1⟩:=id hv1
 obtain ⟨B2,d2,B5,d5,rfl,q2⟩:=id hv2
 refine op_value hi (wanted_none hg) (w' :=w.alloc (.cells #[.int .i64 m.f0.f0,.string m.f0.f1,.slice A2 m.f0.f2.length c2,.int .i64 m.f0.f3,.int .i64 m.f0.f4,.slice A5 m.f0.f5.length c5,.int .i64 m.f1,.int .i64 m.f2,.bool m.f3,.int .i64 y.f0.f0,.string y.f0.f1,.slice B2 y.f0.f2.length d2,.int .i64 y.f0.f3,.int .i64 y.f0.f4,.slice B5 y.f0.f5.length d5,.int .i64 y.f1,.int .i64 y.f2,.bool y.f3] 70)) (v:= .slice (some ⟨w.heap.size,0,none⟩) 2 2) ?_ (h _ _ ⟨[m,y],_,rfl,rfl,by simp,Kd.F_mono (mns2 (a:=[.int .i64 m.f0.f0,.string m.f0.f1,.slice A2 m.f0.f2.length c2,.int .i64 m.f0.f3,.int .i64 m.f0.f4,.slice A5 m.f0.f5.length c5,.int .i64 m.f1,.int .i64 m.f2,.bool m.f3]) (b:=[.int .i64 y.f0.f0,.string y.f0.f1,.slice B2 y.f0.f2.length d2,.int .i64 y.f0.f3,.int .i64 y.f0.f4,.slice B5 y.f0.f5.length d5,.int .i64 y.f1,.int .i64 y.f2,.bool y.f3]) (heap_alloc_new w _) (Kd.FK_below hv1.FK (below_alloc (Below.refl _ _) _)) (Kd.FK_below hv2.FK (below_alloc (Below.refl _ _) _))) (fun k hk=>hk.elim id (fun e=>e▸hB))⟩ (below_alloc (Below.refl _ _) _))
 unfold execOp
 rw[ho]
 unfold mnW at h1 h2
 go_simp
theorem op_node {k1 k2:Tmp} {ts:Array TypeId} {op:Int} {nm:ByteArray} {fr tl:Int} {r:Option (List S70)} {v2:Value} {B:Nat} (hi:ops[i]? =some o) (hg:o.guard=none) (ho:o.op= .call {callee:= .value (.func 60),args:= #[.tmp k1,.tmp k2],argTypes:=ts}) (h1:a.tmps[k1]?.getD undef= .agg #[.int .i64 op,.string nm,.slice none 0 0,.int .i64 fr,.int .i64 tl,.slice none 0 0]) (h2:a.tmps[k2]?.getD undef=v2) (hm:(Kn.mns B r).In v2 w) (hB:B≤w.heap.size)
  (h:∀v w',(Kn.mn B (r.map (nodeP op nm fr tl))).In v w' →Below w.heap.size w w' →J (a.put o.dst v) w'):wpOp Tryz.prog ops Q i J a w:=by
 obtain ⟨ms,A,rfl,rfl,hl,hF⟩:=hm
 refine op_call hi (wanted_none hg) ?_ ((node_calls w _ op nm fr tl A ms.length ms hF hl).mono ?_)
 ·have he:=enters_of Tryz.func60 (by kernel_rfl) rfl #[.agg #[.int .i64 op,.string nm,.slice none 0 0,.int .i64 fr,.int .i64 tl,.slice none 0 0],.slice A ms.length ms.length] w
  unfold execOp
  rw[ho]
  go_simp
 ·rintro e w' ⟨⟨v,rfl,hv⟩,hb⟩
  exact ⟨v,rfl,h v w' ⟨_,rfl,hv.mono (fun k hk=>hk.elim id (fun hk=>Nat.le_trans hB hk))⟩ hb⟩
end
end
section
attribute [local go_sem] Oper.semAt_some
def zeroMn:Obj:= .cells #[.int .i64 0,.string ⟨#[]⟩,.slice none 0 0,.int .i64 0,.int .i64 0,.slice none 0 0,.int .i64 0,.int .i64 0,.bool false] 70 (0,0)
def MnAt (w:World) (g B:Nat) (m:S70):Prop:=∃A2 c2 A5 c5,w.heap[g]? =some (.cells #[.int .i64 m.f0.f0,.string m.f0.f1,.slice A2 m.f0.f2.length c2,.int .i64 m.f0.f3,.int .i64 m.f0.f4,.slice A5 m.f0.f5.length c5,.int .i64 m.f1,.int .i64 m.f2,.bool m.f3] 70 (0,0))∧MnV w (fun k=>B≤k) (mnW m A2 c2 A5 c5) m
section
variable {ops:Array Oper} {Q:Exit→Act→World→Prop} {i:Nat} {o:Oper} {J:Act→World→Prop} {a:Act} {w:World}
theorem op_st70 {k1 k2:Tmp} {g B:Nat} {r:Option S70} {v:Value} (hi:ops[i]? =some o) (hg:o.guard=none) (hd:o.dst=none) (ho:o.op= .store 70 (.tmp k1) (.tmp k2)) (h1:a.tmps[k1]?.getD undef= .pointer (some ⟨g,0,none⟩)) (h2:a.tmps[k2]?.getD undef=v) (hz:w.heap[g]? =some zeroMn) (hm:(Kn.mn B r).In v w) (hgB:g<B)
  (h:∀m w',r=some m→MnAt w' g B m→(∀C,C≤g→Below C w w')→J a w'):wpOp Tryz.prog ops Q i J a w:=by
 obtain ⟨m,rfl,hv⟩:=hm
 obtain ⟨A2,c2,A5,c5,rfl,hr⟩:=id hv
 unfold mnW at h2
 have zf0:=blk_frozen hz 0
 have zf1:=blk_frozen hz 1
 have zf2:=blk_frozen hz 2
 have zf3:=blk_frozen hz 3
 have zf4:=blk_frozen hz 4
 have zf5:=blk_frozen hz 5
 have zf6:=blk_frozen hz 6
 have zf7:=blk_frozen hz 7
 have zf8:=blk_frozen hz 8
 have zc0:=blk_cell hz 0
 have zc1:=blk_cell hz 1
 have zc2:=blk_cell hz 2
 have zc3:=blk_cell hz 3
 have zc4:=blk_cell hz 4
 have zc5:=blk_cell hz 5
 have zc6:=blk_cell hz 6
 have zc7:=blk_cell hz 7
 have zc8:=blk_cell hz 8
 simp at zc0 zc1 zc2 zc3 zc4 zc5 zc6 zc7 zc8
 have hput:a.put none undef=a:=rfl
 have hh:=h m (set9 w g (.int .i64 m.f0.f0) (.string m.f0.f1) (.slice A2 m.f0.f2.length c2) (.int .i64 m.f0.f3) (.int .i64 m.f0.f4) (.slice A5 m.f0.f5.length c5) (.int .i64 m.f1) (.int .i64 m.f2) (.bool m.f3)) rfl ⟨A2,c2,A5,c5,fin9 hz _ _ _ _ _ _ _ _ _,hv.stored (fun k hk=>by omega) _ _ _ _ _ _ _ _ _⟩ (fun C hC=>by
  have hlt:=blk_lt hz
  unfold set9
  exact (((((((((Below.refl C w).setCell (p:=⟨g,0,none⟩) hC _).setCell (p:=⟨g,1,none⟩) hC _).setCell (p:=⟨g,2,none⟩) hC _).setCell (p:=⟨g,3,none⟩) hC _).setCell (p:=⟨g,4,none⟩) hC _).setCell (p:=⟨g,5,none⟩) hC _).setCell (p:=⟨g,6,none⟩) hC _).setCell (p:=⟨g,7,none⟩) hC _).setCell (p:=⟨g,8,none⟩) hC _)
 refine wpOp_step hi (fun K hK=> ?_)
 have hk:=hK _ _ hh
 rw[if_pos (wanted_none hg)]
 unfold Oper.wp execOp
 rw[ho]
 go_simp
 unfold set9 at hk
 exact hk
end
theorem clo_gen {id:FuncId} {F:Func} {n a b:Nat} {o0 o1:Oper} {ops:Array Oper} {args:Array Value} (hF:Tryz.prog.funcs[id]? =some F) (hbody:F.body=some (.seq (.region 0 #[o0,o1] false) (.seq (.region 1 ops true) .ret))) (h0:o0.op= .box 79 (.tmp 1)) (d0:o0.dst=some a) (g0:o0.guard=none) (h1:o1.op= .alloc 70) (d1:o1.dst=some b) (g1:o1.guard=none) (hres:F.results= #[.cell b 70]) (han:a<n) (hbn:b<n)
  (f:Nat→Value) (hf:({tmps:=args++Array.replicate (F.ntmps-args.size) undef,defers:=[]}:Act)=frN n f) (x:Tm) (hx:(frN n f).tmps[1]?.getD undef=tmV x) (W:World) (r:Option S70)
  (h:∀W2,Below W.heap.size W W2→TmAt W2 W.heap.size x→W2.heap[W.heap.size+1]? =some zeroMn→W2.heap.size=W.heap.size+2→Code.wp Tryz.prog (.region 1 ops true) (OnNP (fun a' w' =>a'.defers=[]∧a'.tmps.getD b undef= .pointer (some ⟨W.heap.size+1,0,none⟩)∧Below W.heap.size W w' ∧∃m,r=some m∧MnAt w' (W.heap.size+1) (W.heap.size+2) m) (fun w' =>r=none∧Below W.heap.size W w')) (frN n (upd (upd f a (.pointer (some ⟨W.heap.size,0,none⟩))) b (.pointer (some ⟨W.heap.size+1,0,none⟩)))) W2) :
  Calls Tryz.prog id args W (PostM W r):=by
 refine calls_of_wp hF hbody ?_
 show Code.wp _ _ _ ({tmps:=args++Array.replicate (F.ntmps-args.size) undef,defers:=[]}:Act) W
 rw[hf]
 have hB0:=below_alloc (Below.refl W.heap.size W) (.cells #[.int .i64 x.kind,.string x.name,.int .i64 x.index,.string x.sort] 79)
 have hB1:=below_alloc hB0 (.cells #[.int .i64 0,.string ⟨#[]⟩,.slice none 0 0,.int .i64 0,.int .i64 0,.slice none 0 0,.int .i64 0,.int .i64 0,.bool false] 70)
 refine wp_seq (wp_region_list ?_)
 refine list_op (i:=0) (o:=o0) rfl (op_value (o:=o0) (w' :=W.alloc (.cells #[.int .i64 x.kind,.string x.name,.int .i64 x.index,.string x.sort] 79)) (v:= .pointer (some ⟨W.heap.size,0,none⟩)) rfl (wanted_none g0) ?_ ?_)
 ·unfold execOp
  rw[h0]
  unfold tmV at hx
  go_simp
 rw[d0,frN_put han]
 refine list_op (i:=1) (o:=o1) rfl (op_value (o:=o1) (w' :=(W.alloc (.cells #[.int .i64 x.kind,.string x.name,.int .i64 x.index,.string x.sort] 79)).alloc (.cells #[.int .i64 0,.string ⟨#[]⟩,.slice none 0 0,.int .i64 0,.int .i64 0,.slice none 0 0,.int .i64 0,.int .i64 0,.bool false] 70)) (v:= .pointer (some ⟨W.heap.size+1,0,none⟩)) rfl (wanted_none g1) ?_ ?_)
 ·unfold execOp
  rw[h1]
  go_simp
 rw[d1,frN_put hbn]
 refine wp_seq (wp_onNP _ _ (h _ hB1 (blk_alloc (blk_new W _) _) (new2 W _ _) (by simp)) ?_ ?_)
 ·rintro a' w' ⟨hd,hp,hB,m,rfl,A2,c2,A5,c5,hb,hm⟩
  refine wp_ret ?_
  refine bodyPost_ret (results_single hres (.cell (W.heap.size+1) 70 _ (0,0) _ hp hb Tryz.underlying70 rfl (by kernel_rfl) .nil)) hd ?_
  exact PostM.yes hB (hm.mono (fun k hk=>by omega))
 ·rintro a' w' hd ⟨rfl,hB⟩
  exact ⟨hd,PostM.no hB⟩
end
end Go.Proofs.YtcfjomnihhdpaaaGreatDoor.A
