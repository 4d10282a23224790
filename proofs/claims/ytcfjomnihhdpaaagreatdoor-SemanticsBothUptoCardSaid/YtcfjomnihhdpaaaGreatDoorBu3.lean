/-
  A part of the proof: S5, S6, S7, S8, S9, S10, S11, S12, S13, S14.
-/
import Derived.WalkSpells
import Derived.Lib.SliceRun
import Derived.Deep.RegionHeld3
import Derived.Test.YtcfjomnihhdpaaaGreatDoorBu2
namespace Go.Proofs.YtcfjomnihhdpaaaGreatDoor.A
open Go.RowKit Go.Proofs.YtcfjomnihhdpaaaGreatDoorW.PrintWords Go.Proofs.YtcfjomnihhdpaaaGreatDoorW.PrintLast Go.Proofs.YtcfjomnihhdpaaaGreatDoorW.PrintMore
set_option linter.unusedVariables false
set_option linter.unusedSimpArgs false
theorem makeMap137 (w:World):(Instr.makeMap 137 none).run Tryz.prog w= .ok (.map (some w.heap.size)) (w.alloc (.map #[] 0)):=by kernel_rfl
def sigBox (A0:Option Addr) (n0 c0:Nat) (A1:Option Addr) (n1 c1:Nat) (A2:Option Addr) (n2 c2:Nat):Obj:= .cells #[.slice A0 n0 c0,.slice A1 n1 c1,.slice A2 n2 c2] 26 (0,0)
def Syms (w:World) (ok:Bool) (e:Ending) (w' :World):Prop:=(∃v,e= .returned (.tuple #[.map v,.bool ok]))∧Below w.heap.size w w'
theorem Syms.no {w w' :World} (hB:Below w.heap.size w w'):Syms w false (.returned (.tuple #[.map none,.bool false])) w' :=⟨⟨_,rfl⟩,hB⟩
set_option maxHeartbeats 4000000 in
set_option maxRecDepth 100000 in
theorem symbols_calls (w:World) (A0:Option Addr) (c0:Nat) (ss:List ByteArray) (A1:Option Addr) (c1:Nat) (cs:List S105) (A2:Option Addr) (c2:Nat) (ps:List S107)
  (h0:Kd.string.C w A0 ss.length ss) (l0:ss.length≤c0) (h1:k105.C w A1 cs.length cs) (l1:cs.length≤c1) (h2:k107.C w A2 ps.length ps) (l2:ps.length≤c2)
  (b0:∀x∈ss,x.size≤2000000) (b1:∀x∈cs,x.f0.size≤2000000∧x.f1.size≤2000000) (b2:∀x∈ps,x.f0.size≤2000000∧x.f1.length≤2000000∧∀y∈x.f1,y.size≤2000000) (m0:ss.length≤2000000) (m1:cs.length≤2000000) (m2:ps.length≤2000000) :
  Calls Tryz.prog 103 #[.agg #[.slice A0 ss.length c0,.slice A1 cs.length c1,.slice A2 ps.length c2]] w (Syms w (sigOk ss cs ps)):=by
 have hB1:=below_alloc (Below.refl w.heap.size w) (sigBox A0 ss.length c0 A1 cs.length c1 A2 ps.length c2)
 have hX1:=heap_alloc_new w (sigBox A0 ss.length c0 A1 cs.length c1 A2 ps.length c2)
 have hmk:=makeMap137 (w.alloc (sigBox A0 ss.length c0 A1 cs.length c1 A2 ps.length c2))
 have hsz:(w.alloc (sigBox A0 ss.length c0 A1 cs.length c1 A2 ps.length c2)).heap.size=w.heap.size+1:=by simp
 have hS0:Sym w ((w.alloc (sigBox A0 ss.length c0 A1 cs.length c1 A2 ps.length c2)).alloc (.map #[] 0)) (w.heap.size+1) (sigBox A0 ss.length c0 A1 cs.length c1 A2 ps.length c2) []:=by
  have:=DeclAt.made (w.alloc (sigBox A0 ss.length c0 A1 cs.length c1 A2 ps.length c2))
  rw[hsz]at this
  exact ⟨this,below_alloc hB1 _,blk_alloc hX1 _,Nat.zero_le _,Nat.lt_succ_self _⟩
 have HS0:=Aside0.mk (And.intro hS0 (show declAll [] (sigDecls ss cs ps)=declAll [] ((ss.drop (0:Int).toNat).map dSort++(cs.map dConst++ps.map dPred))from rfl))
 have x0:=blk_cell hS0.box 0
 rw[hsz]at hmk
 have HR0:=Aside0.mk h0
 have HR1:=Aside0.mk h1
 have HR2:=Aside0.mk h2
 have HB0:=Aside0.mk b0
 have HB1:=Aside0.mk b1
 have HB2:=Aside0.mk b2
 have HOK:Aside0 (sigOk ss cs ps=(declAll [] (sigDecls ss cs ps)).isSome):=⟨rfl⟩
 generalize sigOk ss cs ps=OK at *
 unfold sigBox at hmk x0 HS0
 simp at x0
 clear h0 h1 h2 b0 b1 b2 hB1 hX1 hsz hS0
 go_enter Tryz.func103,Tryz.ntmps103
 go_wp2
 go_loopw [15] (fun i w' =>∃x:Int,i= .int .i64 x∧0≤x∧x≤ss.length∧Aside0 (∃l,Sym w w' (w.heap.size+1) (.cells #[.slice A0 ss.length c0,.slice A1 cs.length c1,.slice A2 ps.length c2] 26 (0,0)) l∧declAll [] (sigDecls ss cs ps)=declAll l ((ss.drop x.toNat).map dSort++(cs.map dConst++ps.map dPred)))) (fun i _=>ss.length-(intOf i).toNat)
 case atStart=>exact ⟨0,rfl,Int.le_refl _,Int.natCast_nonneg _,⟨_,HS0.out⟩⟩
 case round =>
  clear HS0
  obtain ⟨x,rfl,hx,hk,HS⟩:=hrel
  obtain ⟨l,hS,hd⟩:=HS.out
  have HSY:=Aside0.mk hS
  have HD:=Aside0.mk hd
  clear HS hS hd
  by_cases hlt:x<ss.length
  ·obtain ⟨ad,e,hx0⟩:=Kd.at_string HR0.out x hx hlt
   cases e
   replace hx0:=(HSY.out.below.cell (World.block_lt_of_cell? w _ hx0)).trans hx0
   have p1:=eq_true hx
   have q1:=eq_true hlt
   have hdr:=drop_rdOf ss x hx hlt
   have C:=Aside0.mk (declare_calls HSY.out.dec (rdOf ByteArray.empty ss x) sSort none 0 [] (Kd.C_nil _ _) (Nat.le_refl 0) (HB0.out _ (rdOf_mem ss x hx hlt)) (fun _ h=>by simp at h) (Nat.zero_le _) HSY.out.few)
   have HDD:Aside0 (declAll [] (sigDecls ss cs ps)=if declOk l (rdOf ByteArray.empty ss x) sSort []=true then declAll (l++[(rdOf ByteArray.empty ss x,sSort)]) ((ss.drop (x+1).toNat).map dSort++(cs.map dConst++ps.map dPred))else none):=⟨by rw[HD.out,hdr];rfl⟩
   generalize rdOf ByteArray.empty ss x=s at *
   cases ho:declOk l s sSort []with
   |true =>
    rw[ho]at HDD C
    replace HDD:=Aside0.mk (HDD.out.trans (if_pos rfl))
    clear hdr HD
    go_wp2_with (go_at_call 150;refine C.out.mono ?_;rintro e w2 hd;obtain rfl:=hd.1;rw[←ho]at hd;have HN:=HSY.out.decl hd;rw[ho,if_pos rfl]at HN;have HN2:=Aside0.mk HN;clear hd HN)
    go_roundw
    case rel=>exact ⟨x+1,rfl,by omega,by omega,⟨_,HN2.out,HDD.out⟩⟩
    case measure=>simp[intOf];omega
   |false =>
    rw[ho]at HDD C
    have HF:Aside0 (OK=false):=⟨by rw[HOK.out,HDD.out];rfl⟩
    clear hdr HD
    go_wp2_with (go_at_call 150;refine C.out.mono ?_;rintro e w2 hd;obtain rfl:=hd.1;rw[←ho]at hd;have HN:=Aside0.mk (HSY.out.decl hd).below;clear hd)
    go_ret2
    rw[HF.out]
    exact Syms.no HN.out
  ·have HS2:Aside0 (∃l,Sym w wr (w.heap.size+1) (.cells #[.slice A0 ss.length c0,.slice A1 cs.length c1,.slice A2 ps.length c2] 26 (0,0)) l∧declAll [] (sigDecls ss cs ps)=declAll l ((cs.drop (0:Int).toNat).map dConst++ps.map dPred)):=⟨l,HSY.out,by rw[HD.out,List.drop_eq_nil_of_le (by omega)];rfl⟩
   have x1:=blk_cell HSY.out.box 1
   simp at x1
   clear HSY HD
   go_wp2
   go_loopw [28] (fun i w' =>∃x:Int,i= .int .i64 x∧0≤x∧x≤cs.length∧Aside0 (∃l,Sym w w' (w.heap.size+1) (.cells #[.slice A0 ss.length c0,.slice A1 cs.length c1,.slice A2 ps.length c2] 26 (0,0)) l∧declAll [] (sigDecls ss cs ps)=declAll l ((cs.drop x.toNat).map dConst++ps.map dPred))) (fun i _=>cs.length-(intOf i).toNat)
   case atStart=>exact ⟨0,rfl,Int.le_refl _,Int.natCast_nonneg _,HS2⟩
   case round =>
    clear HS2
    obtain ⟨y,rfl,hy,hyk,HS⟩:=hrel
    obtain ⟨l,hS,hd⟩:=HS.out
    have HSY:=Aside0.mk hS
    have HD:=Aside0.mk hd
    clear HS hS hd
    by_cases hyl:y<cs.length
    ·obtain ⟨ad,e,hx0,hx1⟩:=at_T105 HR1.out y hy hyl
     cases e
     replace hx0:=(HSY.out.below.cell (World.block_lt_of_cell? w _ hx0)).trans hx0
     replace hx1:=(HSY.out.below.cell (World.block_lt_of_cell? w _ hx1)).trans hx1
     have p1:=eq_true hy
     have q1:=eq_true hyl
     have hdr:=drop_rd105 cs y hy hyl
     have hbm:=HB1.out _ (rd105_mem cs y hy hyl)
     have HDD0:Aside0 (declAll [] (sigDecls ss cs ps)=if declOk l (rd_T105 cs y).f0 sConst [(rd_T105 cs y).f1]=true then declAll (l++[((rd_T105 cs y).f0,sConst)]) ((cs.drop (y+1).toNat).map dConst++ps.map dPred)else none):=⟨by rw[HD.out,hdr];rfl⟩
     generalize rd_T105 cs y=s at *
     obtain ⟨s0,s1⟩:=s
     simp only at hx0 hx1 hbm HDD0
     have hB2:=below_alloc (below_alloc (Below.refl wr.heap.size wr) (.cells #[.string s0,.string s1] 105)) (.cells #[.string s1] 9)
     have hCO:Kd.string.C ((wr.alloc (.cells #[.string s0,.string s1] 105)).alloc (.cells #[.string s1] 9)) (some ⟨wr.heap.size+1,0,none⟩) 1 [s1]:=by
      have q:=C_one (heap_alloc_new (wr.alloc (.cells #[.string s0,.string s1] 105)) (.cells #[.string s1] 9 (0,0)))
      rwa [show (wr.alloc (.cells #[.string s0,.string s1] 105)).heap.size=wr.heap.size+1 by simp]at q
     have HSG:=Aside0.mk (HSY.out.grow hB2)
     have C:=Aside0.mk (declare_calls HSG.out.dec s0 sConst (some ⟨wr.heap.size+1,0,none⟩) 1 [s1] hCO (Nat.le_refl 1) hbm.1 (fun z hz=>by rw[List.mem_singleton.1 hz];exact hbm.2) (by simp) HSG.out.few)
     clear hB2 hCO hbm hdr HD
     cases ho:declOk l s0 sConst [s1]with
     |true =>
      rw[ho]at HDD0 C
      replace HDD0:=Aside0.mk (HDD0.out.trans (if_pos rfl))
      go_wp2_with (go_at_call 150;refine C.out.mono ?_;rintro e w2 hd;obtain rfl:=hd.1;rw[←ho]at hd;have HN:=HSG.out.decl hd;rw[ho,if_pos rfl]at HN;have HN2:=Aside0.mk HN;clear hd HN)
      go_roundw
      case rel=>exact ⟨y+1,rfl,by omega,by omega,⟨_,HN2.out,HDD0.out⟩⟩
      case measure=>simp[intOf];omega
     |false =>
      rw[ho]at HDD0 C
      have HF:Aside0 (OK=false):=⟨by rw[HOK.out,HDD0.out];rfl⟩
      go_wp2_with (go_at_call 150;refine C.out.mono ?_;rintro e w2 hd;obtain rfl:=hd.1;rw[←ho]at hd;have HN:=Aside0.mk (HSG.out.decl hd).below;clear hd)
      go_ret2
      rw[HF.out]
      exact Syms.no HN.out
    ·have HS3:Aside0 (∃l,Sym w wr (w.heap.size+1) (.cells #[.slice A0 ss.length c0,.slice A1 cs.length c1,.slice A2 ps.length c2] 26 (0,0)) l∧declAll [] (sigDecls ss cs ps)=declAll l ((ps.drop (0:Int).toNat).map dPred)):=⟨l,HSY.out,by rw[HD.out,List.drop_eq_nil_of_le (by omega)];rfl⟩
     have x2:=blk_cell HSY.out.box 2
     simp at x2
     clear HSY HD
     go_wp2
     go_loopw [45] (fun i w' =>∃x:Int,i= .int .i64 x∧0≤x∧x≤ps.length∧Aside0 (∃l,Sym w w' (w.heap.size+1) (.cells #[.slice A0 ss.length c0,.slice A1 cs.length c1,.slice A2 ps.length c2] 26 (0,0)) l∧declAll [] (sigDecls ss cs ps)=declAll l ((ps.drop x.toNat).map dPred))) (fun i _=>ps.length-(intOf i).toNat)
     case atStart=>exact ⟨0,rfl,Int.le_refl _,Int.natCast_nonneg _,HS3⟩
     case round =>
      clear HS3
      obtain ⟨z,rfl,hz,hzk,HS⟩:=hrel
      obtain ⟨l,hS,hd⟩:=HS.out
      have HSY:=Aside0.mk hS
      have HD:=Aside0.mk hd
      clear HS hS hd
      by_cases hzl:z<ps.length
      ·obtain ⟨ad,A3,c3,e,hx0,hx1,hl3,hC3⟩:=at_T107 HR2.out z hz hzl
       cases e
       replace hx0:=(HSY.out.below.cell (World.block_lt_of_cell? w _ hx0)).trans hx0
       replace hx1:=(HSY.out.below.cell (World.block_lt_of_cell? w _ hx1)).trans hx1
       have p1:=eq_true hz
       have q1:=eq_true hzl
       have hdr:=drop_rd107 ps z hz hzl
       have hbm:=HB2.out _ (rd107_mem ps z hz hzl)
       have HDD0:Aside0 (declAll [] (sigDecls ss cs ps)=if declOk l (rd_T107 ps z).f0 sPred (rd_T107 ps z).f1=true then declAll (l++[((rd_T107 ps z).f0,sPred)]) ((ps.drop (z+1).toNat).map dPred)else none):=⟨by rw[HD.out,hdr];rfl⟩
       generalize rd_T107 ps z=s at *
       obtain ⟨s0,s1⟩:=s
       simp only at hx0 hx1 hbm HDD0 hl3 hC3
       have hB2:=below_alloc (Below.refl wr.heap.size wr) (.cells #[.string s0,.slice A3 s1.length c3] 107)
       have HSG:=Aside0.mk (HSY.out.grow hB2)
       have C:=Aside0.mk (declare_calls HSG.out.dec s0 sPred A3 c3 s1 (Kd.C_below hC3 HSG.out.below) hl3 hbm.1 hbm.2.2 hbm.2.1 HSG.out.few)
       clear hB2 hbm hdr HD hC3 hl3
       cases ho:declOk l s0 sPred s1 with
       |true =>
        rw[ho]at HDD0 C
        replace HDD0:=Aside0.mk (HDD0.out.trans (if_pos rfl))
        go_wp2_with (go_at_call 150;refine C.out.mono ?_;rintro e w2 hd;obtain rfl:=hd.1;rw[←ho]at hd;have HN:=HSG.out.decl hd;rw[ho,if_pos rfl]at HN;have HN2:=Aside0.mk HN;clear hd HN)
        go_roundw
        case rel=>exact ⟨z+1,rfl,by omega,by omega,⟨_,HN2.out,HDD0.out⟩⟩
        case measure=>simp[intOf];omega
       |false =>
        rw[ho]at HDD0 C
        have HF:Aside0 (OK=false):=⟨by rw[HOK.out,HDD0.out];rfl⟩
        go_wp2_with (go_at_call 150;refine C.out.mono ?_;rintro e w2 hd;obtain rfl:=hd.1;rw[←ho]at hd;have HN:=Aside0.mk (HSG.out.decl hd).below;clear hd)
        go_ret2
        rw[HF.out]
        exact Syms.no HN.out
      ·have HF:Aside0 (OK=true):=⟨by rw[HOK.out,HD.out,List.drop_eq_nil_of_le (by omega)];rfl⟩
       go_wp2
       go_ret2
       rw[HF.out]
       exact ⟨⟨_,rfl⟩,HSY.out.below⟩
structure SigC (w:World) (A0:Option Addr) (c0:Nat) (ss:List ByteArray) (A1:Option Addr) (c1:Nat) (cs:List S105) (A2:Option Addr) (c2:Nat) (ps:List S107):Prop where
 h0:Kd.string.C w A0 ss.length ss
 l0:ss.length≤c0
 h1:k105.C w A1 cs.length cs
 l1:cs.length≤c1
 h2:k107.C w A2 ps.length ps
 l2:ps.length≤c2
 b0:∀x∈ss,x.size≤2000000
 b1:∀x∈cs,x.f0.size≤2000000∧x.f1.size≤2000000
 b2:∀x∈ps,x.f0.size≤2000000∧x.f1.length≤2000000∧∀y∈x.f1,y.size≤2000000
 m0:ss.length≤2000000
 m1:cs.length≤2000000
 m2:ps.length≤2000000
theorem SigC.below {w w1:World} {A0:Option Addr} {c0:Nat} {ss:List ByteArray} {A1:Option Addr} {c1:Nat} {cs:List S105} {A2:Option Addr} {c2:Nat} {ps:List S107} (h:SigC w A0 c0 ss A1 c1 cs A2 c2 ps) (hB:Below w.heap.size w w1):SigC w1 A0 c0 ss A1 c1 cs A2 c2 ps :=
 ⟨Kd.C_below h.h0 hB,h.l0,Kd.C_below h.h1 hB,h.l1,Kd.C_below h.h2 hB,h.l2,h.b0,h.b1,h.b2,h.m0,h.m1,h.m2⟩
set_option maxHeartbeats 1000000 in
set_option maxRecDepth 100000 in
theorem valid_calls (w:World) (A0:Option Addr) (c0:Nat) (ss:List ByteArray) (A1:Option Addr) (c1:Nat) (cs:List S105) (A2:Option Addr) (c2:Nat) (ps:List S107) (h:SigC w A0 c0 ss A1 c1 cs A2 c2 ps) :
  Calls Tryz.prog 58 #[.agg #[.slice A0 ss.length c0,.slice A1 cs.length c1,.slice A2 ps.length c2]] w fun e w' =>e= .returned (.bool (sigOk ss cs ps))∧Below w.heap.size w w' :=by
 have hB1:=below_alloc (Below.refl w.heap.size w) (.cells #[.slice A0 ss.length c0,.slice A1 cs.length c1,.slice A2 ps.length c2] 26)
 have HB1:=Aside0.mk hB1
 have g:=h.below hB1
 have C:=Aside0.mk (symbols_calls _ A0 c0 ss A1 c1 cs A2 c2 ps g.h0 g.l0 g.h1 g.l1 g.h2 g.l2 g.b0 g.b1 g.b2 g.m0 g.m1 g.m2)
 generalize sigOk ss cs ps=ok at *
 clear h g hB1
 go_enter Tryz.func58,Tryz.ntmps58
 go_wp2_with (go_at_call 103;refine C.out.mono ?_;rintro e w1 ⟨⟨v,rfl⟩,hB⟩;have HB2:=Aside0.mk (below_step HB1.out hB);clear hB)
 go_ret
 exact ⟨rfl,HB2.out⟩
mutual
def nodes:S30→Nat
 |⟨_,_,ks⟩=>nodesL ks+1
def nodesL:List S30→Nat
 | []=>0
 |t::r=>nodes t+nodesL r
end
theorem nodes_eq (t:S30):nodes t=nodesL t.f2+1:=by cases t;simp[nodes]
theorem R_empty {α:Type} (d:Kd α) (e:Nat) (W:World) (base:Nat) (ok:Nat→Prop) (hb:base≤W.heap.size) (hok:ok W.heap.size) :
  d.R e (W.alloc (.cells #[] e)) base ok (.slice (some ⟨W.heap.size,0,none⟩) 0 0) []:=by
 refine ⟨fun k hk=> ?_,[],⟨by simp,.inr ⟨W.heap.size,0,#[],rfl,hb,heap_alloc_new W _,Nat.le_refl _,by simp[maxLen],by simp,by simp⟩⟩,by simp,fun j p hj=>by simp at hj⟩
 simp[Value.ownBlock]at hk
 rw[←hk];exact hok
theorem C_none {α:Type} {d:Kd α} {w:World} {l:List α} (hr:d.C w none l.length l):l=[]:=by
 cases l with
 |nil=>rfl
 |cons x l=>obtain ⟨ad,h,_⟩:=hr.2.2 (by simp);cases h
set_option maxHeartbeats 400000 in
set_option maxRecDepth 100000 in
theorem clone_ints (A:Option Addr) (c:Nat) (l:List Int) (w:World) (hr:(Kd.int .i64).C w A l.length l) (hl:l.length*8≤140737488355328) :
  Calls Tryz.prog 97 #[.slice A l.length c] w fun e w' =>∃v,e= .returned v∧(Kd.int .i64).R 3 w' w.heap.size (fun k=>w.heap.size≤k) v l∧Below w.heap.size w w' :=by
 cases A with
 |none =>
  obtain rfl:=C_none hr
  clear hl hr
  have hnil:=fun W=>Lib.run_eql_slice_nil (P:=Tryz.prog) W 27 3 none 0 c 0 0 Tryz.underlying27
  go_enter Tryz.func97,Tryz.ntmps97
  go_wp2
  go_ret
  exact ⟨_,rfl,Kd.R_nil _ _ _ _ _,Below.refl _ _⟩
 |some ad =>
  have hnil:=fun W=>Lib.run_eql_slice_nil (P:=Tryz.prog) W 27 3 (some ad) l.length c 0 0 Tryz.underlying27
  have HR:=Aside0.mk hr
  clear hr
  have HN:=Aside0.mk (R_empty (Kd.int .i64) 3 w w.heap.size (fun k=>w.heap.size≤k) (Nat.le_refl _) (Nat.le_refl _))
  have hl' :(([]:List Int).length+l.length)*8≤140737488355328:=by simpa using hl
  have HL:=Aside0.mk hl'
  clear hl' hl
  have HB:=Aside0.mk (below_alloc (Below.refl w.heap.size w) (.cells #[] 3))
  go_enter Tryz.func97,Tryz.ntmps97
  go_wp2_with (at_builtin;refine Kd.R_append_rows (Kd.int .i64) (w0:=w) w.heap.size rfl _ _ 27 3 (.int .i64 0) 8 rfl Tryz.underlying27 info3 rfl (by decide) (by decide) _ [] l (some ad) l.length c (fun k=>w.heap.size≤k) (fun _=>False) rfl rfl HN.out (Kd.C_alloc HR.out _) (fun _ _ h=>h) (fun _ h=>h.elim) (fun _ h=>Nat.le_trans (by simp) h) HB.out HB.out.size HL.out ?_;intro v1 w1 hN hB hg _;have hN' :=Aside0.mk hN;clear hN;have hB' :=Aside0.mk hB;clear hB;clear hg)
  go_ret
  exact ⟨_,rfl,hN'.out,hB'.out⟩
set_option maxHeartbeats 400000 in
set_option maxRecDepth 100000 in
theorem clone_strs (A:Option Addr) (c:Nat) (l:List ByteArray) (w:World) (hr:Kd.string.C w A l.length l) (hl:l.length*16≤140737488355328) :
  Calls Tryz.prog 118 #[.slice A l.length c] w fun e w' =>∃v,e= .returned v∧Kd.string.R 9 w' w.heap.size (fun k=>w.heap.size≤k) v l∧Below w.heap.size w w' :=by
 cases A with
 |none =>
  obtain rfl:=C_none hr
  clear hl hr
  have hnil:=fun W=>Lib.run_eql_slice_nil (P:=Tryz.prog) W 22 9 none 0 c 0 0 Tryz.underlying22
  go_enter Tryz.func118,Tryz.ntmps118
  go_wp2
  go_ret
  exact ⟨_,rfl,Kd.R_nil _ _ _ _ _,Below.refl _ _⟩
 |some ad =>
  have hnil:=fun W=>Lib.run_eql_slice_nil (P:=Tryz.prog) W 22 9 (some ad) l.length c 0 0 Tryz.underlying22
  have HR:=Aside0.mk hr
  clear hr
  have HN:=Aside0.mk (R_empty Kd.string 9 w w.heap.size (fun k=>w.heap.size≤k) (Nat.le_refl _) (Nat.le_refl _))
  have hl' :(([]:List ByteArray).length+l.length)*16≤140737488355328:=by simpa using hl
  have HL:=Aside0.mk hl'
  clear hl' hl
  have HB:=Aside0.mk (below_alloc (Below.refl w.heap.size w) (.cells #[] 9))
  go_enter Tryz.func118,Tryz.ntmps118
  go_wp2_with (at_builtin;refine Kd.R_append_rows Kd.string (w0:=w) w.heap.size rfl _ _ 22 9 (.string ⟨#[]⟩) 16 rfl Tryz.underlying22 info9 rfl (by decide) (by decide) _ [] l (some ad) l.length c (fun k=>w.heap.size≤k) (fun _=>False) rfl rfl HN.out (Kd.C_alloc HR.out _) (fun _ _ h=>h) (fun _ h=>h.elim) (fun _ h=>Nat.le_trans (by simp) h) HB.out HB.out.size HL.out ?_;intro v1 w1 hN hB hg _;have hN' :=Aside0.mk hN;clear hN;have hB' :=Aside0.mk hB;clear hB;clear hg)
  go_ret
  exact ⟨_,rfl,hN'.out,hB'.out⟩
def runL (P:Program):List Oper→Act→World→Option (Act×World)
 | [],a,w=>some (a,w)
 |o::r,a,w=>match o.guard with
  |none=>match (execOp a.eval o).run P w with
   |.ok (.value v) w' =>runL P r (a.put o.dst v) w'
   |_=>none
  |some _=>none
theorem wpList_run {P:Program} {ops:Array Oper} {Q:Exit→Act→World→Prop}:∀(l:List Oper) (a:Act) (w:World) (a' :Act) (w' :World),runL P l a w=some (a',w')→Q .normal a' w' →wpList P ops Q l a w
 | [],a,w,a',w',h,hq=>by
  simp only[runL,Option.some.injEq,Prod.mk.injEq]at h
  obtain ⟨rfl,rfl⟩:=h
  exact wpList_nil hq
 |o::r,a,w,a',w',h,hq=>by
  unfold runL at h
  cases hg:o.guard with
  |some g=>simp[hg]at h
  |none =>
   simp only[hg]at h
   refine wpList_plain hg fun K hK=> ?_
   unfold Oper.wp
   split at h
   ·rename_i v w1 hr
    rw[hr]
    exact hK _ _ (wpList_run r _ _ _ _ h hq)
   ·cases h
theorem runL_append {P:Program}:∀(l1 l2:List Oper) (a:Act) (w:World),runL P (l1++l2) a w=(runL P l1 a w).bind fun p=>runL P l2 p.1 p.2
 | [],l2,a,w=>rfl
 |o::r,l2,a,w=>by
  rw[List.cons_append]
  cases hg:o.guard with
  |some g=>simp only[runL,hg,Option.bind_none]
  |none =>
   simp only[runL,hg]
   split
   ·exact runL_append r l2 _ _
   ·rfl
def layF (w:World):List S160→World×List Value
 | []=>(w,[])
 |f::r=>match f.f1 with
  | []=>let q:=layF w r;(q.1,[.string f.f0,.slice none 0 0,.string f.f2,.int .i64 f.f3]++q.2)
  |x::xs =>
   let q:=layF (w.alloc (.cells ((x::xs).map Value.string).toArray 9)) r
   (q.1,[.string f.f0,.slice (some ⟨w.heap.size,0,none⟩) (xs.length+1) (xs.length+1),.string f.f2,.int .i64 f.f3]++q.2)
def fn (n:List UInt8) (args:List (List UInt8)) (r:List UInt8) (v:Int):S160:=⟨⟨n.toArray⟩,args.map fun l=>⟨l.toArray⟩,⟨r.toArray⟩,v⟩
def lexicon:List S160:=[
 fn [78,97,109,101] [[80,78]] [78,80] 0,
 fn [69,118,101,114,121] [[67,78]] [78,80] 0,
 fn [83,111,109,101] [[67,78]] [78,80] 0,
 fn [78,111] [[67,78]] [78,80] 0,
 fn [69,118,101,114,121,69,120,99,101,112,116] [[67,78],[67,78]] [78,80] 0,
 fn [66,111,116,104] [[78,80],[78,80]] [78,80] 0,
 fn [73,116] [] [78,80] 0,
 fn [84,104,101,121] [] [78,80] 0,
 fn [78,111,117,110] [[78]] [67,78] 0,
 fn [65,100,106] [[65],[67,78]] [67,78] 0,
 fn [87,104,111] [[67,78],[86,80]] [67,78] 0,
 fn [65,99,116] [[86,49]] [86,80] 0,
 fn [68,111] [[86,50],[78,80]] [86,80] 0,
 fn [71,105,118,101] [[86,51],[78,80],[78,80]] [86,80] 0,
 fn [67,111,115,116] [[86,81]] [86,80] 1,
 fn [65,110,100,86,80] [[86,80],[86,80]] [86,80] 0,
 fn [65,115,115,101,114,116] [[78,80],[86,80]] [83] 0,
 fn [77,117,115,116] [[78,80],[86,80]] [83] 0,
 fn [77,117,115,116,78,111,116] [[78,80],[86,80]] [83] 0,
 fn [77,97,121] [[78,80],[86,80]] [83] 0,
 fn [68,117,114,105,110,103] [[83]] [83] 2,
 fn [83,105,110,99,101] [[83]] [83] 1,
 fn [85,110,116,105,108] [[83]] [83] 1,
 fn [65,110,100] [[83],[83]] [83] 0,
 fn [79,114] [[83],[83]] [83] 0,
 fn [73,102] [[83],[83]] [83] 0,
 fn [65,108,115,111] [[83],[78,80]] [83] 0,
 fn [80,108,101,97,115,101] [[83]] [83] 0,
 fn [112,97,115,115,101,110,103,101,114] [] [78] 0,
 fn [99,104,105,108,100] [] [78] 0,
 fn [103,117,97,114,100] [] [78] 0,
 fn [100,111,103] [] [78] 0,
 fn [102,101,114,114,121] [] [78] 0,
 fn [116,105,99,107,101,116] [] [78] 0,
 fn [98,97,103] [] [78] 0,
 fn [100,111,111,114] [] [78] 0,
 fn [116,105,114,101,100] [] [65] 0,
 fn [111,108,100] [] [65] 0,
 fn [119,101,116] [] [65] 0,
 fn [115,109,97,108,108] [] [65] 0,
 fn [108,111,99,107,101,100] [] [65] 0,
 fn [119,97,105,116] [] [86,49] 0,
 fn [115,108,101,101,112] [] [86,49] 0,
 fn [115,109,111,107,101] [] [86,49] 0,
 fn [100,101,112,97,114,116] [] [86,49] 0,
 fn [97,114,114,105,118,101] [] [86,49] 0,
 fn [99,97,114,114,121] [] [86,50] 0,
 fn [111,112,101,110] [] [86,50] 0,
 fn [116,111,117,99,104] [] [86,50] 0,
 fn [98,111,97,114,100] [] [86,50] 0,
 fn [101,110,116,101,114] [] [86,50] 0,
 fn [115,104,111,119] [] [86,51] 0,
 fn [103,105,118,101] [] [86,51] 0,
 fn [114,101,116,117,114,110] [] [86,51] 0,
 fn [99,111,115,116] [] [86,81] 0,
 fn [119,101,105,103,104] [] [86,81] 0,
 fn [109,97,114,116,97] [] [80,78] 0,
 fn [99,97,112,116,97,105,110] [] [80,78] 0,
 fn [110,111,114,116,104,45,102,101,114,114,121] [] [80,78] 0,
 fn [115,111,117,116,104,45,102,101,114,114,121] [] [80,78] 0,
 fn [111,108,100,45,113,117,97,121] [] [80,78] 0]
theorem body126:Tryz.f126.body=some (.seq (.region 0 (opsOf Tryz.f126 0) false) (.seq (.region 1 (opsOf Tryz.f126 1) false) .ret)):=by kernel_rfl
theorem run126 (w:World):((runL Tryz.prog ((opsOf Tryz.f126 0).toList++(opsOf Tryz.f126 1).toList) {tmps:= #[]++Array.replicate (Tryz.f126.ntmps-0) undef,defers:=[]} w).map fun r=>(r.1.tmps.getD 0 undef,r.1.defers,r.2)) =
  some (.slice (some ⟨(layF w lexicon).1.heap.size,0,none⟩) 61 61,[],(layF w lexicon).1.alloc (.cells (layF w lexicon).2.toArray 160)):=by kernel_rfl
theorem block_own {w:World} {g e size n:Nat} {cs:List Value} (h:w.heap[g]? =some (.cells cs.toArray e)) (hl:cs.length=n*size) (hn:n≤9223372036854775807):w.ownsRow 0 e size (.slice (some ⟨g,0,none⟩) n n) n cs :=
 ⟨hl,.inr ⟨g,n,cs.toArray,rfl,Nat.zero_le _,h,Nat.le_refl _,by simpa[maxLen]using hn,by simpa using hl,by
  show cs.take (n*size)=cs
  rw[←hl,List.take_length]⟩⟩
theorem layF_below:∀(l:List S160) (w:World),Below w.heap.size w (layF w l).1
 | [],w=>Below.refl _ _
 |f::r,w=>by
  unfold layF
  split
  ·exact layF_below r w
  ·exact below_step (below_alloc (Below.refl _ _) _) (layF_below r _)
def New (w:World) (k:Nat):Prop:=w.heap.size≤k
theorem layF_reads:∀(l:List S160) (w W:World),(∀f∈l,f.f1.length≤9223372036854775807)→(∀k cs e,w.heap.size≤k→(layF w l).1.heap[k]? =some (.cells cs e (0,0))→W.heap[k]? =some (.cells cs e (0,0)))→Reps (fun x c=>k160.K W x c) 4 l (layF w l).2
 | [],w,W,hl,hb=>Reps.none _ _
 |f::r,w,W,hl,hb=>by
  have one:∀(x:S160) (c:List Value),k160.K W x c→Reps (fun x c=>k160.K W x c) 4 [x] c:=fun x c hc=>by
   have h:=(Reps.none (fun x c=>k160.K W x c) 4).snoc hc (by rw[k160.K_len hc];rfl)
   simpa using h
  have hr:∀w',(∀k cs e,w'.heap.size≤k→(layF w' r).1.heap[k]? =some (.cells cs e (0,0))→W.heap[k]? =some (.cells cs e (0,0)))→Reps (fun x c=>k160.K W x c) 4 r (layF w' r).2:=fun w' hb' =>layF_reads r w' W (fun f hf=>hl f (List.mem_cons_of_mem _ hf)) hb'
  unfold layF at hb ⊢
  split at hb
  ·rename_i h0
   refine Kd.reps_append (one f _ ?_) (hr w hb)
   have:=k160_mk W f (A1:=none) (c1:=0) (by rw[h0];exact Nat.le_refl _) (by rw[h0];exact Kd.C_nil _ _)
   rwa [h0]at this
  ·rename_i x xs h0
   refine Kd.reps_append (one f _ ?_) (hr _ (fun k cs e hk h=>hb k cs e (by simp at hk;omega) h))
   have hg:W.heap[w.heap.size]? =some (.cells ((x::xs).map Value.string).toArray 9):=hb _ _ _ (Nat.le_refl _) (blk_below (heap_alloc_new w _) (layF_below r _))
   have hlen:(x::xs).length≤9223372036854775807:=by have:=hl f List.mem_cons_self;rwa [h0]at this
   obtain ⟨A,c,he,hC⟩:=own_reads_row (R:=fun (x:ByteArray) (cs:List Value)=>cs=[.string x]) (block_own (size:=1) (n:=(x::xs).length) hg (by simp) hlen) (Kd.reps_scalar (enc:=Value.string) (x::xs)) rfl
   injection he with he1 he2 he3
   subst he1
   have:=k160_mk W f (A1:=some ⟨w.heap.size,0,none⟩) (c1:=xs.length+1) (by rw[h0];exact Nat.le_refl _) (by rw[h0];exact hC)
   rwa [h0]at this
theorem lexicon_short:∀f∈lexicon,f.f1.length≤9223372036854775807:=by
 have h:lexicon.all (fun f=>decide (f.f1.length≤3))=true:=by decide +kernel
 intro f hf
 have:=List.all_eq_true.1 h f hf
 have:=of_decide_eq_true this
 omega
theorem functions_calls (w:World):Calls Tryz.prog 126 #[] w fun e w' =>∃ad c,e= .returned (.slice (some ad) lexicon.length c)∧lexicon.length≤c∧Kd.F k160 w' (New w) (some ad) lexicon.length lexicon∧Below w.heap.size w w' :=by
 have h:=run126 w
 cases hr:runL Tryz.prog ((opsOf Tryz.f126 0).toList++(opsOf Tryz.f126 1).toList) {tmps:= #[]++Array.replicate (Tryz.f126.ntmps-0) undef,defers:=[]} w with
 |none=>rw[hr]at h;cases h
 |some p =>
  obtain ⟨a',w'⟩:=p
  rw[hr]at h
  simp only[Option.map_some,Option.some.injEq,Prod.mk.injEq]at h
  obtain ⟨h0,hd,rfl⟩:=h
  rw[runL_append]at hr
  cases h1:runL Tryz.prog (opsOf Tryz.f126 0).toList {tmps:= #[]++Array.replicate (Tryz.f126.ntmps-0) undef,defers:=[]} w with
  |none=>rw[h1]at hr;cases hr
  |some q =>
   obtain ⟨a1,w1⟩:=q
   rw[h1]at hr
   simp only[Option.bind_some]at hr
   refine calls_of_wp Tryz.func126 body126 ?_
   refine wp_seq (wp_region_list (wpList_run _ _ _ _ _ h1 ?_))
   refine wp_seq (wp_region_list (wpList_run _ _ _ _ _ hr ?_))
   refine wp_ret ?_
   refine bodyPost_ret (results_tmp rfl _ _ _) hd ?_
   have hl:lexicon.length=61:=by decide +kernel
   refine ⟨_,_,congrArg Ending.returned h0,?_,?_,below_step (layF_below lexicon w) (below_alloc (Below.refl _ _) _)⟩
   ·rw[hl];exact Nat.le_refl _
   ·intro W hW
    have hsz:=(layF_below lexicon w).size
    have hR:=layF_reads lexicon w W lexicon_short (fun k cs e hk h=>(hW k hk (by simp;have:=blk_lt h;omega)).trans (blk_alloc h _))
    obtain ⟨A,c,he,hC⟩:=own_reads_row (block_own (size:=4) (n:=61) ((hW _ hsz (by simp)).trans (heap_alloc_new (layF w lexicon).1 _)) (by rw[hR.1,hl]) (by omega)) hR hl
    injection he with he1 he2 he3
    subst he1
    rw[hl]
    exact hC
theorem wpList_run_on {P:Program} {ops:Array Oper} {Q:Exit→Act→World→Prop} {r:List Oper}:∀(l:List Oper) (a:Act) (w:World) (a' :Act) (w' :World),runL P l a w=some (a',w')→wpList P ops Q r a' w' →wpList P ops Q (l++r) a w
 | [],a,w,a',w',h,hq=>by
  simp only[runL,Option.some.injEq,Prod.mk.injEq]at h
  obtain ⟨rfl,rfl⟩:=h
  exact hq
 |o::s,a,w,a',w',h,hq=>by
  unfold runL at h
  cases hg:o.guard with
  |some g=>simp[hg]at h
  |none =>
   simp only[hg]at h
   refine wpList_plain hg fun K hK=> ?_
   unfold Oper.wp
   split at h
   ·rename_i v w1 hr
    rw[hr]
    exact hK _ _ (wpList_run_on s _ _ _ _ h hq)
   ·cases h
theorem wpList_store_end {P:Program} {ops:Array Oper} {Q:Exit→Act→World→Prop} {o:Oper} {a:Act} {w:World} {t:TypeId} {p x:Operand} {g:Nat} {e:TypeId} {cur:Array Value} {u:Value} {seg:List Value} (hg:o.guard=none) (hd:o.dst=none) (ho:o.op= .store t p x)
  (ha:a.eval p= .pointer (some ⟨g,0,none⟩)) (hx:a.eval x=u) (hh:w.heap[g]? =some (.cells cur e (0,0))) (hu:u.cells.toList=seg) (ht:(P.info? t).map (·.size)=some seg.length) (hfit:0+seg.length≤cur.size) (h1:∀q∈seg,q.oneCell' =true)
  (hQ:Q .normal (a.put o.dst undef) (w.setCells g 0 seg)):wpList P ops Q [o] a w:=by
 refine wpList_plain hg fun K hK=> ?_
 unfold Oper.wp
 have hr:=run_store_run (P:=P) t u seg hh hu ht hfit h1
 have:(execOp a.eval o).run P w= .ok .skip (w.setCells g 0 seg):=by
  unfold execOp
  rw[ho]
  simp only[ha,hx]
  simp only[Sem.run_bind,hr,Result.andThen_ok,Sem.run_pure]
 rw[this]
 exact hK _ _ (wpList_nil hQ)
def layP (w:World):List S107→World×List Value
 | []=>(w,[])
 |f::r =>
  let q:=layP (w.alloc (.cells (f.f1.map Value.string).toArray 9)) r
  (q.1,[.string f.f0,.slice (some ⟨w.heap.size,0,none⟩) f.f1.length f.f1.length]++q.2)
def mSorts:List ByteArray:=[⟨#[112,101,114,115,111,110]⟩,⟨#[116,104,105,110,103]⟩,⟨#[112,108,97,99,101]⟩]
def mConsts:List S105:=[⟨⟨#[109,97,114,116,97]⟩,⟨#[112,101,114,115,111,110]⟩⟩,⟨⟨#[99,97,112,116,97,105,110]⟩,⟨#[112,101,114,115,111,110]⟩⟩,⟨⟨#[110,111,114,116,104,45,102,101,114,114,121]⟩,⟨#[116,104,105,110,103]⟩⟩,⟨⟨#[115,111,117,116,104,45,102,101,114,114,121]⟩,⟨#[116,104,105,110,103]⟩⟩,⟨⟨#[111,108,100,45,113,117,97,121]⟩,⟨#[112,108,97,99,101]⟩⟩]
def mPreds:List S107:=[⟨⟨#[112,97,115,115,101,110,103,101,114]⟩,[⟨#[112,101,114,115,111,110]⟩]⟩,
 ⟨⟨#[99,104,105,108,100]⟩,[⟨#[112,101,114,115,111,110]⟩]⟩,
 ⟨⟨#[103,117,97,114,100]⟩,[⟨#[112,101,114,115,111,110]⟩]⟩,
 ⟨⟨#[100,111,103]⟩,[⟨#[116,104,105,110,103]⟩]⟩,
 ⟨⟨#[102,101,114,114,121]⟩,[⟨#[116,104,105,110,103]⟩]⟩,
 ⟨⟨#[116,105,99,107,101,116]⟩,[⟨#[116,104,105,110,103]⟩]⟩,
 ⟨⟨#[98,97,103]⟩,[⟨#[116,104,105,110,103]⟩]⟩,
 ⟨⟨#[100,111,111,114]⟩,[⟨#[116,104,105,110,103]⟩]⟩,
 ⟨⟨#[116,105,114,101,100]⟩,[⟨#[112,101,114,115,111,110]⟩]⟩,
 ⟨⟨#[111,108,100]⟩,[⟨#[112,101,114,115,111,110]⟩]⟩,
 ⟨⟨#[119,101,116]⟩,[⟨#[116,104,105,110,103]⟩]⟩,
 ⟨⟨#[115,109,97,108,108]⟩,[⟨#[116,104,105,110,103]⟩]⟩,
 ⟨⟨#[108,111,99,107,101,100]⟩,[⟨#[116,104,105,110,103]⟩]⟩,
 ⟨⟨#[119,97,105,116]⟩,[⟨#[112,101,114,115,111,110]⟩]⟩,
 ⟨⟨#[115,108,101,101,112]⟩,[⟨#[112,101,114,115,111,110]⟩]⟩,
 ⟨⟨#[115,109,111,107,101]⟩,[⟨#[112,101,114,115,111,110]⟩]⟩,
 ⟨⟨#[100,101,112,97,114,116]⟩,[⟨#[116,104,105,110,103]⟩]⟩,
 ⟨⟨#[97,114,114,105,118,101]⟩,[⟨#[116,104,105,110,103]⟩]⟩,
 ⟨⟨#[99,97,114,114,121]⟩,[⟨#[112,101,114,115,111,110]⟩,⟨#[116,104,105,110,103]⟩]⟩,
 ⟨⟨#[111,112,101,110]⟩,[⟨#[112,101,114,115,111,110]⟩,⟨#[116,104,105,110,103]⟩]⟩,
 ⟨⟨#[116,111,117,99,104]⟩,[⟨#[112,101,114,115,111,110]⟩,⟨#[116,104,105,110,103]⟩]⟩,
 ⟨⟨#[98,111,97,114,100]⟩,[⟨#[112,101,114,115,111,110]⟩,⟨#[116,104,105,110,103]⟩]⟩,
 ⟨⟨#[101,110,116,101,114]⟩,[⟨#[112,101,114,115,111,110]⟩,⟨#[112,108,97,99,101]⟩]⟩,
 ⟨⟨#[115,104,111,119]⟩,[⟨#[112,101,114,115,111,110]⟩,⟨#[116,104,105,110,103]⟩,⟨#[112,101,114,115,111,110]⟩]⟩,
 ⟨⟨#[103,105,118,101]⟩,[⟨#[112,101,114,115,111,110]⟩,⟨#[116,104,105,110,103]⟩,⟨#[112,101,114,115,111,110]⟩]⟩,
 ⟨⟨#[114,101,116,117,114,110]⟩,[⟨#[112,101,114,115,111,110]⟩,⟨#[116,104,105,110,103]⟩,⟨#[112,101,114,115,111,110]⟩]⟩,
 ⟨⟨#[99,111,115,116]⟩,[⟨#[116,104,105,110,103]⟩,⟨#[110,117,109,98,101,114]⟩]⟩,
 ⟨⟨#[119,101,105,103,104]⟩,[⟨#[116,104,105,110,103]⟩,⟨#[110,117,109,98,101,114]⟩]⟩]
def zero26:Obj:= .cells #[.slice none 0 0,.slice none 0 0,.slice none 0 0] 26 (0,0)
def mA (w:World):World:=((w.alloc zero26).alloc (.cells (mSorts.map Value.string).toArray 9)).alloc (.cells (mConsts.flatMap fun c=>[Value.string c.f0,Value.string c.f1]).toArray 105)
def mB (w:World):World:=(layP (mA w) mPreds).1.alloc (.cells (layP (mA w) mPreds).2.toArray 107)
theorem body38:Tryz.f38.body=some (.seq (.region 0 (opsOf Tryz.f38 0) false) (.seq (.region 1 (opsOf Tryz.f38 1) false) .ret)):=by kernel_rfl
theorem run38 (w:World):((runL Tryz.prog (((opsOf Tryz.f38 0).toList++(opsOf Tryz.f38 1).toList.take 65)) {tmps:= #[]++Array.replicate (Tryz.f38.ntmps-0) undef,defers:=[]} w).map fun r=>(r.1.tmps.getD 0 undef,r.1.tmps.getD 65 undef,r.1.defers,r.2)) =
  some (.pointer (some ⟨w.heap.size,0,none⟩),.agg #[.slice (some ⟨(w.alloc zero26).heap.size,0,none⟩) 3 3,.slice (some ⟨((w.alloc zero26).alloc (.cells (mSorts.map Value.string).toArray 9)).heap.size,0,none⟩) 5 5,.slice (some ⟨(layP (mA w) mPreds).1.heap.size,0,none⟩) 28 28],[],mB w):=by kernel_rfl
theorem layP_below:∀(l:List S107) (w:World),Below w.heap.size w (layP w l).1
 | [],w=>Below.refl _ _
 |f::r,w=>by unfold layP;exact below_step (below_alloc (Below.refl _ _) _) (layP_below r _)
theorem layP_reads:∀(l:List S107) (w W:World),(∀f∈l,f.f1.length≤9223372036854775807)→(∀k cs e,w.heap.size≤k→(layP w l).1.heap[k]? =some (.cells cs e (0,0))→W.heap[k]? =some (.cells cs e (0,0)))→Reps (fun x c=>k107.K W x c) 2 l (layP w l).2
 | [],w,W,hl,hb=>Reps.none _ _
 |f::r,w,W,hl,hb=>by
  unfold layP at hb ⊢
  have hr:=layP_reads r (w.alloc (.cells (f.f1.map Value.string).toArray 9)) W (fun x hx=>hl x (List.mem_cons_of_mem _ hx)) (fun k cs e hk h=>hb k cs e (by simp at hk;omega) h)
  have hg:W.heap[w.heap.size]? =some (.cells (f.f1.map Value.string).toArray 9):=hb _ _ _ (Nat.le_refl _) (blk_below (heap_alloc_new w _) (layP_below r _))
  obtain ⟨A,c,he,hC⟩:=own_reads_row (R:=fun (x:ByteArray) (cs:List Value)=>cs=[.string x]) (block_own (size:=1) (n:=f.f1.length) hg (by simp) (hl f List.mem_cons_self)) (Kd.reps_scalar (enc:=Value.string) f.f1) rfl
  injection he with he1 he2 he3
  subst he1
  have hm:=k107_mk W f (A1:=some ⟨w.heap.size,0,none⟩) (c1:=f.f1.length) (Nat.le_refl _) hC
  have one:Reps (fun x c=>k107.K W x c) 2 [f] [.string f.f0,.slice (some ⟨w.heap.size,0,none⟩) f.f1.length f.f1.length]:=by
   have h:=(Reps.none (fun (x:S107) c=>k107.K W x c) 2).snoc hm rfl
   simpa using h
  exact Kd.reps_append one hr
theorem reps_consts (W:World):∀l:List S105,Reps (fun x c=>k105.K W x c) 2 l (l.flatMap fun c=>[Value.string c.f0,Value.string c.f1])
 | []=>Reps.none _ _
 |x::r=>by
  have one:Reps (fun x c=>k105.K W x c) 2 [x] [.string x.f0,.string x.f1]:=by
   have h:=(Reps.none (fun (x:S105) c=>k105.K W x c) 2).snoc (k105_mk W x) rfl
   simpa using h
  exact Kd.reps_append one (reps_consts W r)
theorem mA_size (w:World):(mA w).heap.size=w.heap.size+3:=by simp[mA]
theorem mPreds_short:∀f∈mPreds,f.f1.length≤9223372036854775807:=by
 have h:mPreds.all (fun f=>decide (f.f1.length≤3))=true:=by decide +kernel
 intro f hf
 have:=of_decide_eq_true (List.all_eq_true.1 h f hf)
 omega
theorem mSmall:(∀x∈mSorts,x.size≤2000000)∧(∀x∈mConsts,x.f0.size≤2000000∧x.f1.size≤2000000)∧(∀x∈mPreds,x.f0.size≤2000000∧x.f1.length≤2000000∧∀y∈x.f1,y.size≤2000000):=by
 refine ⟨?_,?_,?_⟩
 ·have h:mSorts.all (fun x=>decide (x.size≤2000000))=true:=by decide +kernel
  intro x hx
  exact of_decide_eq_true (List.all_eq_true.1 h x hx)
 ·have h:mConsts.all (fun x=>decide (x.f0.size≤2000000∧x.f1.size≤2000000))=true:=by decide +kernel
  intro x hx
  exact of_decide_eq_true (List.all_eq_true.1 h x hx)
 ·have h:mPreds.all (fun x=>decide (x.f0.size≤2000000∧x.f1.length≤2000000) && x.f1.all (fun y=>decide (y.size≤2000000)))=true:=by decide +kernel
  intro x hx
  have h1:=List.all_eq_true.1 h x hx
  rw[Bool.and_eq_true]at h1
  have h2:=of_decide_eq_true h1.1
  exact ⟨h2.1,h2.2,fun y hy=>of_decide_eq_true (List.all_eq_true.1 h1.2 y hy)⟩
theorem mLen:mSorts.length=3∧mConsts.length=5∧mPreds.length=28:=⟨by decide +kernel,by decide +kernel,by decide +kernel⟩
theorem meanings_calls (w:World):Calls Tryz.prog 38 #[] w fun e w' =>∃A0 A1 A2,e= .returned (.agg #[.slice A0 mSorts.length mSorts.length,.slice A1 mConsts.length mConsts.length,.slice A2 mPreds.length mPreds.length])∧SigC w' A0 mSorts.length mSorts A1 mConsts.length mConsts A2 mPreds.length mPreds∧Below w.heap.size w w' :=by
 have h:=run38 w
 cases hr:runL Tryz.prog (((opsOf Tryz.f38 0).toList++(opsOf Tryz.f38 1).toList.take 65)) {tmps:= #[]++Array.replicate (Tryz.f38.ntmps-0) undef,defers:=[]} w with
 |none=>rw[hr]at h;cases h
 |some p =>
  obtain ⟨a',w'⟩:=p
  rw[hr]at h
  simp only[Option.map_some,Option.some.injEq,Prod.mk.injEq]at h
  obtain ⟨h0,h65,hd,rfl⟩:=h
  obtain ⟨o,hlast⟩:∃o:Oper,(opsOf Tryz.f38 1).toList.drop 65=[o]:=List.length_eq_one_iff.1 (by kernel_rfl)
  have hall:((opsOf Tryz.f38 1).toList.drop 65).map (fun o=>(o.guard,o.dst,o.op))=[(none,none,.store 26 (.tmp 0) (.tmp 65))]:=by kernel_rfl
  rw[hlast]at hall
  simp only[List.map_cons,List.map_nil,List.cons.injEq,Prod.mk.injEq,and_true]at hall
  obtain ⟨hog,hod,hoo⟩:=hall
  have b0:(mA w).heap[w.heap.size]? =some (.cells #[.slice none 0 0,.slice none 0 0,.slice none 0 0] 26 (0,0)):=blk_alloc (blk_alloc (heap_alloc_new w _) _) _
  have hBm:Below (mA w).heap.size (mA w) (mB w):=below_step (layP_below mPreds (mA w)) (below_alloc (Below.refl _ _) _)
  have hm:(mB w).heap[w.heap.size]? =some (.cells #[.slice none 0 0,.slice none 0 0,.slice none 0 0] 26 (0,0)):=blk_below b0 hBm
  rw[runL_append]at hr
  cases h1:runL Tryz.prog (opsOf Tryz.f38 0).toList {tmps:= #[]++Array.replicate (Tryz.f38.ntmps-0) undef,defers:=[]} w with
  |none=>rw[h1]at hr;cases hr
  |some q =>
   obtain ⟨a1,w1⟩:=q
   rw[h1]at hr
   simp only[Option.bind_some]at hr
   refine calls_of_wp Tryz.func38 body38 ?_
   refine wp_seq (wp_region_list (wpList_run _ _ _ _ _ h1 ?_))
   refine wp_seq (wp_region_list ?_)
   rw[←List.take_append_drop 65 (opsOf Tryz.f38 1).toList]
   refine wpList_run_on _ _ _ _ _ hr ?_
   rw[hlast]
   obtain ⟨cur',h3,h4,h5⟩:=setCells_row [.slice (some ⟨(w.alloc zero26).heap.size,0,none⟩) 3 3,.slice (some ⟨((w.alloc zero26).alloc (.cells (mSorts.map Value.string).toArray 9)).heap.size,0,none⟩) 5 5,.slice (some ⟨(layP (mA w) mPreds).1.heap.size,0,none⟩) 28 28] 0 (mB w) _ hm (by simp)
   refine wpList_store_end (seg:=[.slice (some ⟨(w.alloc zero26).heap.size,0,none⟩) 3 3,.slice (some ⟨((w.alloc zero26).alloc (.cells (mSorts.map Value.string).toArray 9)).heap.size,0,none⟩) 5 5,.slice (some ⟨(layP (mA w) mPreds).1.heap.size,0,none⟩) 28 28]) hog hod hoo h0 h65 hm rfl (by kernel_rfl) (by simp) (by simp[Value.oneCell']) ?_
   refine wp_ret ?_
   rw[hod]
   have hcur:cur' = #[.slice (some ⟨(w.alloc zero26).heap.size,0,none⟩) 3 3,.slice (some ⟨((w.alloc zero26).alloc (.cells (mSorts.map Value.string).toArray 9)).heap.size,0,none⟩) 5 5,.slice (some ⟨(layP (mA w) mPreds).1.heap.size,0,none⟩) 28 28]:=by
    apply Array.ext'
    rw[h5];rfl
   subst hcur
   have hfar:∀k,k≠w.heap.size→((mB w).setCells w.heap.size 0 [.slice (some ⟨(w.alloc zero26).heap.size,0,none⟩) 3 3,.slice (some ⟨((w.alloc zero26).alloc (.cells (mSorts.map Value.string).toArray 9)).heap.size,0,none⟩) 5 5,.slice (some ⟨(layP (mA w) mPreds).1.heap.size,0,none⟩) 28 28]).heap[k]? =(mB w).heap[k]? :=fun k hk=>setCells_far _ _ k hk
   have hsame:=setCells_same w.heap.size [.slice (some ⟨(w.alloc zero26).heap.size,0,none⟩) 3 3,.slice (some ⟨((w.alloc zero26).alloc (.cells (mSorts.map Value.string).toArray 9)).heap.size,0,none⟩) 5 5,.slice (some ⟨(layP (mA w) mPreds).1.heap.size,0,none⟩) 28 28] 0 (mB w)
   generalize hW:(mB w).setCells w.heap.size 0 [.slice (some ⟨(w.alloc zero26).heap.size,0,none⟩) 3 3,.slice (some ⟨((w.alloc zero26).alloc (.cells (mSorts.map Value.string).toArray 9)).heap.size,0,none⟩) 5 5,.slice (some ⟨(layP (mA w) mPreds).1.heap.size,0,none⟩) 28 28]=W at *
   refine bodyPost_ret (results_single rfl (.cell w.heap.size 26 _ (0,0) _ h0 h3 Tryz.underlying26 rfl (by kernel_rfl) .nil)) hd ?_
   obtain ⟨n1,n2,n3⟩:=mLen
   have hbm:=below_step (show Below w.heap.size w (mA w)from below_alloc (below_alloc (below_alloc (Below.refl _ _) _) _) _) hBm
   refine ⟨some ⟨(w.alloc zero26).heap.size,0,none⟩,some ⟨((w.alloc zero26).alloc (.cells (mSorts.map Value.string).toArray 9)).heap.size,0,none⟩,some ⟨(layP (mA w) mPreds).1.heap.size,0,none⟩,by rw[n1,n2,n3],?_,?_⟩
   ·have e1:(w.alloc zero26).heap.size=w.heap.size+1:=by simp
    have e2:((w.alloc zero26).alloc (.cells (mSorts.map Value.string).toArray 9)).heap.size=w.heap.size+2:=by simp
    have g1:W.heap[w.heap.size+1]? =some (.cells (mSorts.map Value.string).toArray 9):=by
     rw[hfar _ (by omega)]
     have h:=blk_alloc (heap_alloc_new (w.alloc zero26) (.cells (mSorts.map Value.string).toArray 9)) (.cells (mConsts.flatMap fun c=>[Value.string c.f0,Value.string c.f1]).toArray 105)
     rw[e1]at h
     exact blk_below h hBm
    have g2:W.heap[w.heap.size+2]? =some (.cells (mConsts.flatMap fun c=>[Value.string c.f0,Value.string c.f1]).toArray 105):=by
     rw[hfar _ (by omega)]
     have h:=heap_alloc_new ((w.alloc zero26).alloc (.cells (mSorts.map Value.string).toArray 9)) (.cells (mConsts.flatMap fun c=>[Value.string c.f0,Value.string c.f1]).toArray 105)
     rw[e2]at h
     exact blk_below h hBm
    have hsz:w.heap.size+3≤(layP (mA w) mPreds).1.heap.size:=by rw[←mA_size];exact (layP_below mPreds (mA w)).size
    have g3:W.heap[(layP (mA w) mPreds).1.heap.size]? =some (.cells (layP (mA w) mPreds).2.toArray 107):=by
     rw[hfar _ (by omega)]
     exact heap_alloc_new _ _
    have hR:=layP_reads mPreds (mA w) W mPreds_short (fun k cs e hk h=>by
     rw[mA_size]at hk
     rw[hfar k (by omega)]
     exact blk_alloc h _)
    refine ⟨?_,Nat.le_refl _,?_,Nat.le_refl _,?_,Nat.le_refl _,mSmall.1,mSmall.2.1,mSmall.2.2,by omega,by omega,by omega⟩
    ·obtain ⟨A,c,he,hC⟩:=own_reads_row (R:=fun (x:ByteArray) (cs:List Value)=>cs=[.string x]) (block_own (size:=1) (n:=mSorts.length) g1 (by simp) (by omega)) (Kd.reps_scalar (enc:=Value.string) mSorts) rfl
     injection he with he1 he2 he3
     rw[e1,he1]
     exact hC
    ·obtain ⟨A,c,he,hC⟩:=own_reads_row (block_own (size:=2) (n:=mConsts.length) g2 (by rw[(reps_consts W mConsts).1]) (by omega)) (reps_consts W mConsts) rfl
     injection he with he1 he2 he3
     rw[e2,he1]
     exact hC
    ·obtain ⟨A,c,he,hC⟩:=own_reads_row (block_own (size:=2) (n:=mPreds.length) g3 (by rw[hR.1]) (by omega)) hR rfl
     injection he with he1 he2 he3
     rw[he1]
     exact hC
   ·exact ⟨hsame.1.trans hbm.os,hsame.2.1.trans hbm.tape,hsame.2.2.1.trans hbm.output,by rw[hsame.2.2.2];exact hbm.size,fun k hk=>(hfar k (by omega)).trans (hbm.block k hk)⟩
section
abbrev Ents:=List (ByteArray×Value)
def entOf:Ents→ByteArray→Option Value
 | [],_=>none
 |p::r,x=>if p.1.data.toList=x.data.toList then some p.2 else entOf r x
theorem entOf_snoc (l:Ents) (a:ByteArray) (b:Value) (x:ByteArray) (h:entOf l a=none):entOf (l++[(a,b)]) x=if a.data.toList=x.data.toList then some b else entOf l x:=by
 induction l with
 |nil=>rfl
 |cons p r ih =>
  have hp:p.1.data.toList≠a.data.toList:=by
   intro he
   rw[entOf,if_pos he]at h
   cases h
  have hr:entOf r a=none:=by rwa [entOf,if_neg hp]at h
  rw[List.cons_append,entOf,entOf,ih hr]
  by_cases h1:p.1.data.toList=x.data.toList
  ·rw[if_pos h1,if_pos h1,if_neg (fun h2=>hp (h1.trans h2.symm))]
  ·rw[if_neg h1,if_neg h1]
def heldD (v:Value):Option (DataW Value×List MemPlace):=some (.held v,[])
theorem heldD_inv {v u:Value} {ps:List MemPlace} (h:heldD v=some (.held u,ps)):v=u:=by
 unfold heldD at h
 injection h with h
 injection h with h _
 injection h
def MapAt (w:World) (mb:Nat) (l:Ents):Prop:=∃D:DataW Value,w.ownsMap Tryz.prog 9 heldD mb l.length D∧Maps.size D=l.length ∧
 ∀x:ByteArray,Maps.has D (.string x.data.toList)=(entOf l x).isSome∧∀z,D.atKey (.string x.data.toList) (.held z)= .held ((entOf l x).getD z)
section
variable {w w1:World} {mb:Nat} {l:Ents}
theorem MapAt.step (h:MapAt w mb l) (hm:w1.heap[mb]? =w.heap[mb]?):MapAt w1 mb l:=by
 obtain ⟨D,⟨es,clock,hb,F,hs,hD⟩,h2,h3⟩:=h
 exact ⟨D,⟨es,clock,hm.trans hb,F,hs,hD⟩,h2,h3⟩
theorem MapAt.lt (h:MapAt w mb l):mb<w.heap.size:=by
 obtain ⟨D,h1,_⟩:=h
 exact h1.lt
theorem MapAt.below (h:MapAt w mb l) (hB:Below w.heap.size w w1):MapAt w1 mb l:=h.step (hB.block mb h.lt)
theorem MapAt.look_ok (h:MapAt w mb l) {tm e:TypeId} {z:Value} (ht:Tryz.prog.underlying tm=some (.map 9 e)) (hz:(zeroValue e).run Tryz.prog w= .ok z w) (x:ByteArray) (hx:x.size≤maxLen):(Instr.lookup tm (.map (some mb)) (.string x) true).run Tryz.prog w= .ok (.tuple #[(entOf l x).getD z,.bool (entOf l x).isSome]) w:=by
 obtain ⟨D,h1,_,h3⟩:=h
 obtain ⟨v,ps,hrun,hv⟩:=h1.look_ok keyed9 ht hz (zd:= .held z) (zp:=[]) rfl (WideMaps.keyOf_string_mk Tryz.underlying9 hx)
 rw[(h3 x).2 z]at hv
 rw[(h3 x).1]at hrun
 rw[←heldD_inv hv]
 exact hrun
theorem MapAt.made (w:World):MapAt (w.alloc (.map #[] 0)) w.heap.size []:=⟨.map [],World.ownsMap_made w Tryz.prog 9 heldD,rfl,fun x=>⟨rfl,fun z=>rfl⟩⟩
theorem MapAt.store (h:MapAt w mb l) {tm e:TypeId} (ht:Tryz.prog.underlying tm=some (.map 9 e)) (hn:l.length<1000000) (x:ByteArray) (v:Value) (hx:x.size≤maxLen) (hno:entOf l x=none) :
  ∃w',(Instr.mapUpdate tm (.map (some mb)) (.string x) v).run Tryz.prog w= .ok () w' ∧MapAt w' mb (l++[(x,v)])∧w.grownBy w' (some mb):=by
 obtain ⟨D,h1,h2,h3⟩:=h
 obtain ⟨w',hrun,hown,hg⟩:=h1.update keyed9 ht (by unfold maxLen;omega) (WideMaps.keyOf_string_mk Tryz.underlying9 hx) (show heldD v=some (.held v,[])from rfl)
 refine ⟨w',hrun,⟨D.put (.string x.data.toList) (.held v),?_,?_,fun y=> ?_⟩,hg⟩
 ·rw[List.length_append];exact hown
 ·rw[Maps.size_put (h1.tidy keyed9),(h3 x).1,hno,h2];simp
 ·rw[entOf_snoc l x v y hno]
  by_cases he:x.data.toList=y.data.toList
  ·rw[if_pos he,he]
   exact ⟨by rw[Maps.has_put_same h1.isMap (by trivial)];rfl,fun z=>by rw[Maps.atKey_put_same h1.isMap (by trivial)];rfl⟩
  ·have hne:(Lit.string y.data.toList)≠Lit.string x.data.toList:=by
    intro e;injection e with e;exact he e.symm
   rw[if_neg he]
   exact ⟨by rw[Maps.has_put_other hne];exact (h3 y).1,fun z=>by rw[Maps.atKey_put_other hne];exact (h3 y).2 z⟩
end
theorem zero160 (w:World):(zeroValue 160).run Tryz.prog w= .ok (.agg #[.string ⟨#[]⟩,.slice none 0 0,.string ⟨#[]⟩,.int .i64 0]) w:=by kernel_rfl
theorem makeMap115 (w:World):(Instr.makeMap 115 none).run Tryz.prog w= .ok (.map (some w.heap.size)) (w.alloc (.map #[] 0)):=by kernel_rfl
def fnOf (l:List S160) (x:ByteArray):Option S160:=l.find? fun f=>decide (f.f0.data.toList=x.data.toList)
def FnsAt (w:World) (mb:Nat) (l:List S160):Prop:=∃en:Ents,MapAt w mb en∧en.length=l.length∧∀x,match fnOf l x with
 |none=>entOf en x=none
 |some f=>∃A c,entOf en x=some (.agg #[.string f.f0,.slice A f.f1.length c,.string f.f2,.int .i64 f.f3])∧f.f1.length≤c∧Kd.string.C w A f.f1.length f.f1
theorem FnsAt.below {w w1:World} {mb:Nat} {l:List S160} (h:FnsAt w mb l) (hB:Below w.heap.size w w1):FnsAt w1 mb l:=by
 obtain ⟨en,h1,h2,h3⟩:=h
 refine ⟨en,h1.below hB,h2,fun x=> ?_⟩
 have:=h3 x
 split at this
 ·rename_i h;exact this
 ·rename_i f h
  obtain ⟨A,c,e,hl,hC⟩:=this
  exact ⟨A,c,e,hl,Kd.C_below hC hB⟩
end
def structL:List S160:=lexicon.take 28
inductive EnsOf (w:World) (ok:Nat→Prop):Ents→List S160→Prop
 |nil:EnsOf w ok [] []
 | snoc {en:Ents} {fs:List S160} {f:S160} {A:Option Addr} {c:Nat} (h:EnsOf w ok en fs) (hl:f.f1.length≤c) (hF:Kd.F Kd.string w ok A f.f1.length f.f1) :
   EnsOf w ok (en++[(f.f0,.agg #[.string f.f0,.slice A f.f1.length c,.string f.f2,.int .i64 f.f3])]) (fs++[f])
theorem EnsOf.len {w:World} {ok:Nat→Prop} {en:Ents} {fs:List S160} (h:EnsOf w ok en fs):en.length=fs.length:=by
 induction h with
 |nil=>rfl
 |snoc h hl hF ih=>simp[ih]
theorem EnsOf.step {w w1:World} {ok:Nat→Prop} {en:Ents} {fs:List S160} (h:EnsOf w ok en fs) (hm:∀k,ok k→k<w.heap.size→w1.heap[k]? =w.heap[k]?):EnsOf w1 ok en fs:=by
 induction h with
 |nil=>exact .nil
 |snoc h hl hF ih=>exact .snoc ih hl (Kd.F_step hF hm)
theorem entOf_append (l r:Ents) (x:ByteArray):entOf (l++r) x=(entOf l x).or (entOf r x):=by
 induction l with
 |nil=>rfl
 |cons p s ih =>
  rw[List.cons_append,entOf,entOf]
  split
  ·rfl
  ·exact ih
theorem EnsOf.find {w:World} {ok:Nat→Prop} {en:Ents} {fs:List S160} (h:EnsOf w ok en fs) (x:ByteArray):match fnOf fs x with
 |none=>entOf en x=none
 |some f=>∃A c,entOf en x=some (.agg #[.string f.f0,.slice A f.f1.length c,.string f.f2,.int .i64 f.f3])∧f.f1.length≤c∧Kd.string.C w A f.f1.length f.f1:=by
 induction h with
 |nil=>rfl
 |@snoc en fs f A c h hl hF ih =>
  rw[entOf_append]
  unfold fnOf at ih ⊢
  rw[List.find?_append]
  cases hf:List.find? (fun f=>decide (f.f0.data.toList=x.data.toList)) fs with
  |some g =>
   rw[hf]at ih
   obtain ⟨A',c',e,h1,h2⟩:=ih
   exact ⟨A',c',by rw[e];rfl,h1,h2⟩
  |none =>
   rw[hf]at ih
   rw[show entOf en x=none from ih,Option.none_or,Option.none_or,List.find?_cons]
   by_cases he:f.f0.data.toList=x.data.toList
   ·rw[decide_eq_true he]
    exact ⟨A,c,by rw[entOf,if_pos he],hl,Kd.F_now hF⟩
   ·rw[decide_eq_false he]
    show entOf _ x=none
    rw[entOf,if_neg he]
    rfl
theorem EnsOf.fresh {w:World} {ok:Nat→Prop} {en:Ents} {fs:List S160} (h:EnsOf w ok en fs) (x:ByteArray) (hx:fnOf fs x=none):entOf en x=none:=by
 have:=h.find x
 rw[hx]at this
 exact this
theorem lexicon_names:∀x:Nat,x<28→fnOf (lexicon.take x) (rd_T160 lexicon (x:Int)).f0=none∧(rd_T160 lexicon (x:Int)).f0.size≤100:=by
 have h:(List.range 28).all (fun x=>decide ((fnOf (lexicon.take x) (rd_T160 lexicon (x:Int)).f0).isNone=true∧(rd_T160 lexicon (x:Int)).f0.size≤100))=true:=by decide +kernel
 intro x hx
 have:=of_decide_eq_true (List.all_eq_true.1 h x (List.mem_range.2 hx))
 exact ⟨by simpa using this.1,this.2⟩
theorem take_rd160 (l:List S160) (x:Int) (h0:0≤x) (h1:x<l.length):l.take (x+1).toNat=l.take x.toNat++[rd_T160 l x]:=by
 have e:(x+1).toNat=x.toNat+1:=by omega
 rw[e,List.take_succ_eq_append_getElem (by omega)]
 unfold rd_T160
 rw[List.getD_eq_getElem?_getD,List.getElem?_eq_getElem (by omega)]
 rfl
structure Stru (w w1:World) (ad:Addr) (n:Nat) (wr:World):Prop where
 map:∃en,MapAt wr w.heap.size en∧EnsOf wr (New w1) en (lexicon.take n)
 fns:Kd.F k160 wr (New w1) (some ad) lexicon.length lexicon
 below:Below w.heap.size w wr
 lt:w.heap.size<w1.heap.size
theorem Stru.put {w w1:World} {ad:Addr} {x:Int} {wr:World} {en:Ents} {A:Option Addr} {c:Nat} {o:Obj} {w2:World} (h:Stru w w1 ad x.toNat wr) (h0:0≤x) (h1:x<28) (he:EnsOf wr (New w1) en (lexicon.take x.toNat)) (hl:(rd_T160 lexicon x).f1.length≤c) (hF:Kd.F Kd.string wr (New w1) A (rd_T160 lexicon x).f1.length (rd_T160 lexicon x).f1)
  (hm:MapAt w2 w.heap.size (en++[((rd_T160 lexicon x).f0,.agg #[.string (rd_T160 lexicon x).f0,.slice A (rd_T160 lexicon x).f1.length c,.string (rd_T160 lexicon x).f2,.int .i64 (rd_T160 lexicon x).f3])])) (hg:(wr.alloc o).grownBy w2 (some w.heap.size)):Stru w w1 ad (x+1).toNat w2:=by
 have hlen:lexicon.length=61:=by decide +kernel
 have hmm:∀k,New w1 k→k<wr.heap.size→w2.heap[k]? =wr.heap[k]? :=fun k hk hlt=>(hg.block k (by simp;omega) (by intro e;injection e with e;have:=h.lt;unfold New at hk;omega)).trans (Below.heap_alloc _ _ k hlt)
 refine ⟨⟨_,hm,?_⟩,Kd.F_step h.fns hmm,(below_alloc h.below o).grown hg (by have:=h.below.size;simp;omega) (fun k e=>by injection e with e;omega),h.lt⟩
 rw[take_rd160 lexicon x h0 (by omega)]
 exact .snoc (he.step hmm) hl (Kd.F_step hF hmm)
theorem at_F160 {w:World} {ok:Nat→Prop} {ad:Addr} {n:Nat} {xs:List S160} (h:Kd.F k160 w ok (some ad) n xs) (i:Int) (h0:0≤i) (h1:i<n):∃A1 c1,w.cell? (ad.add (i.toNat*4))=some (.string (rd_T160 xs i).f0)∧w.cell? ⟨(ad.add (i.toNat*4)).block,(ad.add (i.toNat*4)).off+1,none⟩=some (.slice A1 (rd_T160 xs i).f1.length c1)∧w.cell? ⟨(ad.add (i.toNat*4)).block,(ad.add (i.toNat*4)).off+2,none⟩=some (.string (rd_T160 xs i).f2)∧w.cell? ⟨(ad.add (i.toNat*4)).block,(ad.add (i.toNat*4)).off+3,none⟩=some (.int .i64 (rd_T160 xs i).f3)∧(rd_T160 xs i).f1.length≤c1∧Kd.F Kd.string w ok A1 (rd_T160 xs i).f1.length (rd_T160 xs i).f1:=by
 obtain ⟨ad',c,e,_,hK,hc0,_⟩:=Kd.F_get h z160 i h0 h1
 injection e with e
 subst e
 have hc:∀j u,c[j]? =some u→w.cell? (ad.add (i.toNat*4+j))=some u:=hc0
 obtain ⟨A1,c1,rfl,l1,g1⟩:=k160_openF hK
 exact ⟨A1,c1,hc 0 _ rfl,by rw[←add_field _ _ 1 (by omega)];exact hc 1 _ rfl,by rw[←add_field _ _ 2 (by omega)];exact hc 2 _ rfl,by rw[←add_field _ _ 3 (by omega)];exact hc 3 _ rfl,l1,g1⟩
set_option maxHeartbeats 1000000 in
set_option maxRecDepth 100000 in
theorem structural_calls (w:World):Calls Tryz.prog 79 #[] w fun e w' =>∃mb,e= .returned (.map (some mb))∧FnsAt w' mb structL∧Below w.heap.size w w' :=by
 have hmk:=makeMap115 w
 have hsz:(w.alloc (.map #[] 0)).heap.size=w.heap.size+1:=by simp
 have C:=Aside0.mk (functions_calls (w.alloc (.map #[] 0)))
 have H0:=Aside0.mk (And.intro (MapAt.made w) (below_alloc (Below.refl w.heap.size w) (.map #[] 0)))
 have hlen:lexicon.length=61:=by decide +kernel
 rw[hlen]at C
 clear hlen
 go_enter Tryz.func79,Tryz.ntmps79
 go_wp2_with (go_at_call 126;refine C.out.mono ?_;rintro e w1 ⟨ad,c,rfl,hc,hF,hB⟩;have HS:=Aside0.mk (show Stru w (w.alloc (.map #[] 0)) ad (0:Int).toNat w1 from ⟨⟨[],H0.out.1.below hB,.nil⟩,by rw[show lexicon.length=61 by decide +kernel];exact hF,below_step H0.out.2 hB,by omega⟩);clear hF hB)
 generalize hW1:w.alloc (.map #[] 0)=W1 at *
 go_loopw [8] (fun i w' =>∃x:Int,i= .int .i64 x∧0≤x∧x≤28∧Aside0 (Stru w W1 ad x.toNat w')) (fun i _=>28-(intOf i).toNat)
 case atStart=>exact ⟨0,rfl,Int.le_refl _,by omega,HS⟩
 case round =>
  clear HS
  obtain ⟨x,rfl,hx,hk,HS⟩:=hrel
  by_cases hlt:x<28
  ·obtain ⟨A1,c1,hx0,hx1,hx2,hx3,hl1,hF1⟩:=at_F160 HS.out.fns x hx (by rw[show lexicon.length=61 by decide +kernel];omega)
   obtain ⟨en,hM,hE⟩:=HS.out.map
   have hnm:=lexicon_names x.toNat (by omega)
   rw[show ((x.toNat:Nat):Int)=x by omega]at hnm
   have hM2:=hM.below (below_alloc (Below.refl _ wr) (.cells #[.string (rd_T160 lexicon x).f0,.slice A1 (rd_T160 lexicon x).f1.length c1,.string (rd_T160 lexicon x).f2,.int .i64 (rd_T160 lexicon x).f3] 160))
   obtain ⟨w2,hrun,hM3,hg⟩:=hM2.store Tryz.underlying115 (by rw[hE.len,List.length_take];omega) (rd_T160 lexicon x).f0 (.agg #[.string (rd_T160 lexicon x).f0,.slice A1 (rd_T160 lexicon x).f1.length c1,.string (rd_T160 lexicon x).f2,.int .i64 (rd_T160 lexicon x).f3]) (by unfold maxLen;omega) (hE.fresh _ hnm.1)
   have HS2:=Aside0.mk (HS.out.put hx hlt hE hl1 hF1 hM3 hg)
   clear hM hE hM2 hM3 hg hF1 hl1 hnm HS
   generalize rd_T160 lexicon x=f at *
   obtain ⟨f0,f1,f2,f3⟩:=f
   simp only at hx0 hx1 hx2 hx3 hrun
   go_wp2
   go_roundw
   case rel=>exact ⟨x+1,rfl,by omega,by omega,HS2⟩
   case measure=>simp[intOf];omega
  ·obtain ⟨en,hM,hE⟩:=HS.out.map
   have HF:Aside0 (FnsAt wr w.heap.size structL):=⟨en,hM,by rw[hE.len,show x.toNat=28 by omega];rfl,fun y=>by
    have:=hE.find y
    rwa [show x.toNat=28 by omega]at this⟩
   have HB:=Aside0.mk HS.out.below
   clear hM hE HS
   go_wp2
   go_ret
   exact ⟨_,rfl,HF.out,HB.out⟩
def isCat (c:ByteArray):Bool:=(c.toList == ([83]:List UInt8)) || (c.toList == ([78,80]:List UInt8)) || (c.toList == ([67,78]:List UInt8)) || (c.toList == ([86,80]:List UInt8))
def valOk (v:Int):Bool:=decide (0≤v) && decide (v≤1439999999)
def headFits (g:S160) (cat:ByteArray) (nv nk:Nat):Bool:=(g.f2.toList == cat.toList) && decide (g.f1.length=nk) && decide (g.f3=(nv:Int))
mutual
def formedP (l:List S160):S30→ByteArray→Bool
 | ⟨f,vs,ks⟩,cat=>if isCat cat=true then (match fnOf l f with
   |none=>false
   |some g=>headFits g cat vs.length ks.length && (vs.all valOk && formedL l ks g.f1))else (decide (ks.length=0) && decide (vs.length=0))
def formedL (l:List S160):List S30→List ByteArray→Bool
 | [],_=>true
 |t::r,cs=>formedP l t (cs.headD ByteArray.empty) && formedL l r cs.tail
end
theorem formedP_cat {l:List S160} {t:S30} {cat:ByteArray} (h:isCat cat=true):formedP l t cat=match fnOf l t.f0 with
   |none=>false
   |some g=>headFits g cat t.f1.length t.f2.length && (t.f1.all valOk && formedL l t.f2 g.f1):=by
 cases t;simp[formedP,h]
theorem formedP_leaf {l:List S160} {t:S30} {cat:ByteArray} (h:isCat cat=false):formedP l t cat=(decide (t.f2.length=0) && decide (t.f1.length=0)):=by
 cases t;simp[formedP,h]
mutual
/-- Names and lists of no great length. -/
def Sm:S30→Prop
 |⟨f,vs,ks⟩=>f.size≤2000000∧vs.length≤2000000∧ks.length≤2000000∧SmL ks
def SmL:List S30→Prop
 | []=>True
 |t::r=>Sm t∧SmL r
end
theorem Sm.eq (t:S30):Sm t↔(t.f0.size≤2000000∧t.f1.length≤2000000∧t.f2.length≤2000000∧SmL t.f2):=by cases t;simp[Sm]
theorem SmL.mem {x:S30}:∀{l:List S30},SmL l→x∈l→Sm x
 |t::r,h,hx=>by
  simp only[SmL]at h
  rcases List.mem_cons.1 hx with rfl | hx
  ·exact h.1
  ·exact SmL.mem h.2 hx
noncomputable def tsz (t:S30):Nat:=SizeOf.sizeOf t
noncomputable def lsz (l:List S30):Nat:=SizeOf.sizeOf l
theorem kids_lt (t:S30):lsz t.f2<tsz t:=by
 cases t;simp[tsz,lsz];omega
theorem mem_lt {x:S30} {l:List S30} (h:x∈l):tsz x<lsz l:=List.sizeOf_lt_of_mem h
theorem rd_mem (l:List S30) (x:Int) (h0:0≤x) (h1:x<l.length):rd_T30 l x∈l:=by
 unfold rd_T30
 rw[List.getD_eq_getElem?_getD,List.getElem?_eq_getElem (by omega)]
 exact List.getElem_mem _
theorem take_rd (l:List S30) (x:Int) (h0:0≤x) (h1:x<l.length):l.take (x+1).toNat=l.take x.toNat++[rd_T30 l x]:=by
 have e:(x+1).toNat=x.toNat+1:=by omega
 rw[e,List.take_succ_eq_append_getElem (by omega)]
 unfold rd_T30
 rw[List.getD_eq_getElem?_getD,List.getElem?_eq_getElem (by omega)]
 rfl
theorem drop_rd (l:List S30) (x:Int) (h0:0≤x) (h1:x<l.length):l.drop x.toNat=rd_T30 l x::l.drop (x+1).toNat:=by
 have e:(x+1).toNat=x.toNat+1:=by omega
 rw[e,List.drop_eq_getElem_cons (by omega)]
 unfold rd_T30
 rw[List.getD_eq_getElem?_getD,List.getElem?_eq_getElem (by omega)]
 rfl
theorem rd_get (xs:List Int) (i:Int) (h0:0≤i) (h1:i<xs.length):xs.drop i.toNat=rd xs i::xs.drop (i+1).toNat:=by
 have e:(i+1).toNat=i.toNat+1:=by omega
 rw[e,List.drop_eq_getElem_cons (by omega)]
 unfold rd
 rw[List.getD_eq_getElem?_getD,List.getElem?_eq_getElem (by omega)]
 rfl
theorem head_rdOf (l:List ByteArray) (x:Int) (h0:0≤x):(l.drop x.toNat).headD ByteArray.empty=rdOf ByteArray.empty l x:=by
 unfold rdOf
 rw[List.headD_eq_head?_getD,List.head?_drop,List.getD_eq_getElem?_getD]
theorem tail_drop (l:List ByteArray) (x:Int) (h0:0≤x):(l.drop x.toNat).tail=l.drop (x+1).toNat:=by
 rw[List.tail_drop,show (x+1).toNat=x.toNat+1 by omega]
set_option maxHeartbeats 1000000 in
set_option maxRecDepth 100000 in
theorem formed_leaf (w:World) (mb:Nat) (t:S30) (A1:Option Addr) (c1:Nat) (A2:Option Addr) (c2:Nat) (cat:ByteArray) (hc:isCat cat=false) :
  Calls Tryz.prog 78 #[.map (some mb),.agg #[.string t.f0,.slice A1 t.f1.length c1,.slice A2 t.f2.length c2],.string cat] w fun e w' =>e= .returned (.bool (decide (t.f2.length=0) && decide (t.f1.length=0)))∧Below w.heap.size w w' :=by
 unfold isCat at hc
 simp only[Bool.or_eq_false_iff]at hc
 obtain ⟨⟨⟨q1,q2⟩,q3⟩,q4⟩:=hc
 have HB:=Aside0.mk (below_alloc (Below.refl w.heap.size w) (.cells #[.string t.f0,.slice A1 t.f1.length c1,.slice A2 t.f2.length c2] 30))
 generalize t.f2.length=k at *
 generalize t.f1.length=v at *
 by_cases hk:k=0
 ·subst hk
  by_cases hv:v=0
  ·subst hv
   go_enter Tryz.func78,Tryz.ntmps78
   go_wp2
   go_ret
   exact ⟨rfl,HB.out⟩
  ·have e:((v:Int) == 0)=false:=beq_eq_false_iff_ne.mpr (by omega)
   have HV:=Aside0.mk hv
   clear hv
   go_enter Tryz.func78,Tryz.ntmps78
   go_wp2
   go_ret
   exact ⟨by simp[HV.out],HB.out⟩
 ·have e:((k:Int) == 0)=false:=beq_eq_false_iff_ne.mpr (by omega)
  have HV:=Aside0.mk hk
  clear hk
  go_enter Tryz.func78,Tryz.ntmps78
  go_wp2
  go_ret
  exact ⟨by simp[HV.out],HB.out⟩
def Which (cat:ByteArray):Prop:=((cat.toList == ([83]:List UInt8))=true)∨((cat.toList == ([83]:List UInt8))=false∧(cat.toList == ([78,80]:List UInt8))=true) ∨
 ((cat.toList == ([83]:List UInt8))=false∧(cat.toList == ([78,80]:List UInt8))=false∧(cat.toList == ([67,78]:List UInt8))=true) ∨
 ((cat.toList == ([83]:List UInt8))=false∧(cat.toList == ([78,80]:List UInt8))=false∧(cat.toList == ([67,78]:List UInt8))=false∧(cat.toList == ([86,80]:List UInt8))=true)
theorem isCat_which {cat:ByteArray} (h:isCat cat=true):Which cat:=by
 unfold isCat at h
 unfold Which
 cases h1:(cat.toList == ([83]:List UInt8))<;>cases h2:(cat.toList == ([78,80]:List UInt8))<;>cases h3:(cat.toList == ([67,78]:List UInt8))<;>cases h4:(cat.toList == ([86,80]:List UInt8))<;>simp_all
set_option maxHeartbeats 4000000 in
set_option maxRecDepth 100000 in
theorem formed_none (w:World) (mb:Nat) (l:List S160) (h:FnsAt w mb l) (t:S30) (hs:t.f0.size≤2000000) (A1:Option Addr) (c1:Nat) (A2:Option Addr) (c2:Nat) (cat:ByteArray) (hc:isCat cat=true)
  (hno:∀g,fnOf l t.f0=some g→headFits g cat t.f1.length t.f2.length=false) :
  Calls Tryz.prog 78 #[.map (some mb),.agg #[.string t.f0,.slice A1 t.f1.length c1,.slice A2 t.f2.length c2],.string cat] w fun e w' =>e= .returned (.bool false)∧Below w.heap.size w w' :=by
 have hw:=isCat_which hc
 unfold Which at hw
 have hB:=below_alloc (Below.refl w.heap.size w) (.cells #[.string t.f0,.slice A1 t.f1.length c1,.slice A2 t.f2.length c2] 30)
 obtain ⟨en,hM,_,hE⟩:=h.below hB
 have hlk:=hM.look_ok Tryz.underlying115 (zero160 _) t.f0 (by unfold maxLen;omega)
 have hf:=hE t.f0
 have HB:=Aside0.mk (fun o=>below_alloc hB o)
 clear h hM hE hB
 have H1:∀i:Int,∀j:Nat,True:=fun _ _=>trivial
 clear H1
 generalize hv:t.f1.length=v at *
 generalize hk:t.f2.length=k at *
 clear hv hk
 cases hfn:fnOf l t.f0 with
 |none =>
  rw[hfn]at hf
  rw[hf]at hlk
  simp only[Option.getD_none,Option.isSome_none]at hlk
  clear hf hno hfn hc
  rcases hw with q1 | ⟨q1,q2⟩ | ⟨q1,q2,q3⟩ | ⟨q1,q2,q3,q4⟩
  all_goals (
   go_enter Tryz.func78,Tryz.ntmps78
   go_wp2
   go_ret
   exact ⟨rfl,HB.out _⟩)
 |some g =>
  rw[hfn]at hf
  obtain ⟨A,c,he,hcl,_⟩:=hf
  rw[he]at hlk
  simp only[Option.getD_some,Option.isSome_some]at hlk
  have hno:=hno g hfn
  clear he hfn hc hcl
  obtain ⟨g0,g1,g2,g3⟩:=g
  simp only at hlk
  unfold headFits at hno
  simp only at hno
  generalize g1.length=m at *
  cases r1:(g2.toList == cat.toList)with
  |false =>
   clear hno
   rcases hw with q1 | ⟨q1,q2⟩ | ⟨q1,q2,q3⟩ | ⟨q1,q2,q3,q4⟩
   all_goals (
    go_enter Tryz.func78,Tryz.ntmps78
    go_wp2
    go_ret
    exact ⟨rfl,HB.out _⟩)
  |true =>
   by_cases hm:m=k
   ·subst hm
    have e2:(g3 == (v:Int))=false:=by
     rw[r1]at hno
     simpa using hno
    clear hno
    rename Kd.C _ _ _ _ _=>hcc
    clear hcc
    rcases hw with q1 | ⟨q1,q2⟩ | ⟨q1,q2,q3⟩ | ⟨q1,q2,q3,q4⟩
    all_goals (
     go_enter Tryz.func78,Tryz.ntmps78
     go_wp2
     go_ret
     exact ⟨rfl,HB.out _⟩)
   ·have e1:((m:Int) == (k:Int))=false:=beq_eq_false_iff_ne.mpr (by omega)
    clear hno hm
    rcases hw with q1 | ⟨q1,q2⟩ | ⟨q1,q2,q3⟩ | ⟨q1,q2,q3,q4⟩
    all_goals (
     go_enter Tryz.func78,Tryz.ntmps78
     go_wp2
     go_ret
     exact ⟨rfl,HB.out _⟩)
theorem headFits_eq {g:S160} {cat:ByteArray} {nv nk:Nat} (h:headFits g cat nv nk=true):(g.f2.toList == cat.toList)=true∧g.f1.length=nk∧g.f3=(nv:Int):=by
 unfold headFits at h
 simpa[and_assoc]using h
set_option maxHeartbeats 4000000 in
set_option maxRecDepth 100000 in
theorem formed_fit (w:World) (mb:Nat) (l:List S160) (h:FnsAt w mb l) (t:S30) (hs:Sm t) (A1:Option Addr) (c1:Nat) (A2:Option Addr) (c2:Nat) (cat:ByteArray)
  (h1:(Kd.int .i64).C w A1 t.f1.length t.f1) (l1:t.f1.length≤c1) (h2:k30.C w A2 t.f2.length t.f2) (l2:t.f2.length≤c2) (hc:isCat cat=true)
  (g:S160) (hg:fnOf l t.f0=some g) (hfit:headFits g cat t.f1.length t.f2.length=true)
  (ih:∀(x:S30) (B1:Option Addr) (d1:Nat) (B2:Option Addr) (d2:Nat) (cat' :ByteArray) (W:World),x∈t.f2→Below w.heap.size w W→(Kd.int .i64).C W B1 x.f1.length x.f1→x.f1.length≤d1→k30.C W B2 x.f2.length x.f2→x.f2.length≤d2 →
   Calls Tryz.prog 78 #[.map (some mb),.agg #[.string x.f0,.slice B1 x.f1.length d1,.slice B2 x.f2.length d2],.string cat'] W fun e w' =>e= .returned (.bool (formedP l x cat'))∧Below W.heap.size W w') :
  Calls Tryz.prog 78 #[.map (some mb),.agg #[.string t.f0,.slice A1 t.f1.length c1,.slice A2 t.f2.length c2],.string cat] w fun e w' =>e= .returned (.bool (t.f1.all valOk && formedL l t.f2 g.f1))∧Below w.heap.size w w' :=by
 have hw:=isCat_which hc
 unfold Which at hw
 have hsm:=(Sm.eq t).1 hs
 have hB:=below_alloc (Below.refl w.heap.size w) (.cells #[.string t.f0,.slice A1 t.f1.length c1,.slice A2 t.f2.length c2] 30)
 obtain ⟨en,hM,_,hE⟩:=h.below hB
 have hlk:=hM.look_ok Tryz.underlying115 (zero160 _) t.f0 (by unfold maxLen;omega)
 have hf:=hE t.f0
 rw[hg]at hf
 obtain ⟨A,c,he,hcl,hCg⟩:=hf
 rw[he]at hlk
 simp only[Option.getD_some,Option.isSome_some]at hlk
 obtain ⟨r1,r2,r3⟩:=headFits_eq hfit
 clear he hE hM h hfit hg hc hs
 obtain ⟨g0,g1,g2,g3⟩:=g
 simp only at hlk r1 r2 r3 hcl hCg ⊢
 subst r3
 have hk1:=hsm.2.1
 have hk2:=hsm.2.2.1
 clear hsm
 have HC1:=Aside0.mk h1
 have HC2:=Aside0.mk h2
 have HI:=Aside0.mk ih
 have HCg:=Aside0.mk (Kd.C_alloc hCg (.cells #[.string g0,.slice A g1.length c,.string g2,.int .i64 t.f1.length] 160))
 clear h1 h2 ih hCg
 have HB2:=Aside0.mk (below_alloc hB (.cells #[.string g0,.slice A g1.length c,.string g2,.int .i64 t.f1.length] 160))
 have HB1:=Aside0.mk hB
 have b7:=heap_alloc_new (w.alloc (.cells #[.string t.f0,.slice A1 t.f1.length c1,.slice A2 t.f2.length c2] 30)) (.cells #[.string g0,.slice A g1.length c,.string g2,.int .i64 t.f1.length] 160)
 rw[show (w.alloc (.cells #[.string t.f0,.slice A1 t.f1.length c1,.slice A2 t.f2.length c2] 30)).heap.size=w.heap.size+1 by simp]at b7
 have B7:=Aside0.mk b7
 have b4:=blk_alloc (heap_alloc_new w (.cells #[.string t.f0,.slice A1 t.f1.length c1,.slice A2 t.f2.length c2] 30)) (.cells #[.string g0,.slice A g1.length c,.string g2,.int .i64 t.f1.length] 160)
 have B4:=Aside0.mk b4
 clear b7 b4 hB
 rw[r2]at hlk B4 B7 HB2 HCg
 have R2:=Aside0.mk r2
 clear r2
 rcases hw with q1 | ⟨q1,q2⟩ | ⟨q1,q2,q3⟩ | ⟨q1,q2,q3,q4⟩
 all_goals (
  go_enter Tryz.func78,Tryz.ntmps78
  go_wp2
  generalize hW2:((w.alloc (.cells #[.string t.f0,.slice A1 t.f1.length c1,.slice A2 t.f2.length c2] 30)).alloc (.cells #[.string g0,.slice A t.f2.length c,.string g2,.int .i64 t.f1.length] 160))=W2 at *
  clear hW2
  go_loopw [64] (fun i w' =>∃x:Int,i= .int .i64 x∧0≤x∧x≤t.f1.length∧W2=w' ∧Aside0 (t.f1.all valOk=(t.f1.drop x.toNat).all valOk)) (fun i _=>t.f1.length-(intOf i).toNat)
  case atStart=>exact ⟨0,rfl,Int.le_refl _,Int.natCast_nonneg _,rfl,⟨rfl⟩⟩
  case round =>
   obtain ⟨x,rfl,hx,hk,rfl,HV⟩:=hrel
   by_cases hlt:x<t.f1.length
   ·obtain ⟨ad,e,hx0⟩:=Kd.at_int HC1.out x hx hlt
    cases e
    replace hx0:=(HB2.out.cell (World.block_lt_of_cell? w _ hx0)).trans hx0
    have p1:=eq_true hx
    have q1:=eq_true hlt
    have hdr:=rd_get t.f1 x hx hlt
    have HV2:Aside0 (t.f1.all valOk=(valOk (rd t.f1 x) && (t.f1.drop (x+1).toNat).all valOk)):=⟨by rw[HV.out,hdr,List.all_cons]⟩
    clear hdr HV
    generalize rd t.f1 x=v at *
    by_cases v0:0≤v
    ·by_cases v1:v≤1439999999
     ·have HV3:Aside0 (t.f1.all valOk=(t.f1.drop (x+1).toNat).all valOk):=⟨by rw[HV2.out];simp[valOk,v0,v1]⟩
      have d0:decide (v<0)=false:=decide_eq_false (by omega)
      have d1:decide ((1439999999:Int)<v)=false:=decide_eq_false (by omega)
      clear v0 v1 HV2
      go_wp2
      go_roundw
      case rel=>exact ⟨x+1,rfl,by omega,by omega,trivial,HV3⟩
      case measure=>simp[intOf];omega
     ·have HV3:Aside0 (t.f1.all valOk=false):=⟨by rw[HV2.out];simp[valOk,v1]⟩
      have d0:decide (v<0)=false:=decide_eq_false (by omega)
      have d1:(1439999999:Int)<v:=by omega
      clear v0 v1 HV2
      go_wp2
      go_ret
      rw[HV3.out]
      exact ⟨rfl,HB2.out⟩
    ·have HV3:Aside0 (t.f1.all valOk=false):=⟨by rw[HV2.out];simp[valOk,v0]⟩
     have d0:v<0:=by omega
     clear v0 HV2
     go_wp2
     go_ret
     rw[HV3.out]
     exact ⟨rfl,HB2.out⟩
   ·have HV3:Aside0 (t.f1.all valOk=true):=⟨by rw[HV.out,List.drop_eq_nil_of_le (by omega)];rfl⟩
    clear HV
    have x4:=blk_cell B4.out 2
    simp at x4
    go_wp2
    clear x4
    go_loopw [78] (fun i w' =>∃x:Int,i= .int .i64 x∧0≤x∧x≤t.f2.length∧Aside0 (Below W2.heap.size W2 w')∧Aside0 (formedL l t.f2 g1=formedL l (t.f2.drop x.toNat) (g1.drop x.toNat))) (fun i _=>t.f2.length-(intOf i).toNat)
    case atStart=>exact ⟨0,rfl,Int.le_refl _,Int.natCast_nonneg _,⟨Below.refl _ _⟩,⟨rfl⟩⟩
    case round =>
     obtain ⟨y,rfl,hy,hyk,HBL,HL⟩:=hrel
     by_cases hyl:y<t.f2.length
     ·obtain ⟨ad,B1,d1,B2,d2,e,hx0,hx1,hx2,hl1,hi1,hl2,hi2⟩:=at_T30 HC2.out y hy hyl
      cases e
      obtain ⟨ag,e,hg0⟩:=Kd.at_string HCg.out y hy hyl
      cases e
      have hBq:=below_step HB2.out HBL.out
      replace hx0:=(hBq.cell (World.block_lt_of_cell? w _ hx0)).trans hx0
      replace hx1:=(hBq.cell (World.block_lt_of_cell? w _ hx1)).trans hx1
      replace hx2:=(hBq.cell (World.block_lt_of_cell? w _ hx2)).trans hx2
      have HG:=Aside0.mk (fun (W:World) (hW:Below W2.heap.size W2 W)=>(hW.cell (World.block_lt_of_cell? _ _ hg0)).trans hg0)
      have p2:=eq_true hy
      have q2:=eq_true hyl
      have hdr:=drop_rd t.f2 y hy hyl
      have hLL:Aside0 (formedL l t.f2 g1=(formedP l (rd_T30 t.f2 y) (rdOf ByteArray.empty g1 y) && formedL l (t.f2.drop (y+1).toNat) (g1.drop (y+1).toNat))):=⟨by rw[HL.out,hdr,formedL,head_rdOf _ _ hy,tail_drop _ _ hy]⟩
      have D:=Aside0.mk (fun (W:World) (hW:Below w.heap.size w W)=>HI.out (rd_T30 t.f2 y) B1 d1 B2 d2 (rdOf ByteArray.empty g1 y) W (rd_mem t.f2 y hy hyl) hW (Kd.C_below hi1 hW) hl1 (Kd.C_below hi2 hW) hl2)
      clear hdr hl1 hi1 hl2 hi2 hg0 HL
      generalize formedP l (rd_T30 t.f2 y) (rdOf ByteArray.empty g1 y)=b at *
      generalize rdOf ByteArray.empty g1 y=sa at *
      generalize rd_T30 t.f2 y=u at *
      go_wp2_with fail
      have hbz:=blk_lt B7.out
      have HN0:=Aside0.mk (show (wr.alloc (.cells #[.string u.f0,.slice B1 u.f1.length d1,.slice B2 u.f2.length d2] 30)).drew.heap[wr.heap.size]? =some (.cells #[.string u.f0,.slice B1 u.f1.length d1,.slice B2 u.f2.length d2] 30)from heap_alloc_new wr _)
      have HBa:=Aside0.mk (below_drew (below_alloc hBq (.cells #[.string u.f0,.slice B1 u.f1.length d1,.slice B2 u.f2.length d2] 30)))
      have HBw:=Aside0.mk (below_drew (below_alloc HBL.out (.cells #[.string u.f0,.slice B1 u.f1.length d1,.slice B2 u.f2.length d2] 30)))
      have S00:=Aside0.mk (fun (W:World) (hW:Below (wr.alloc (.cells #[.string u.f0,.slice B1 u.f1.length d1,.slice B2 u.f2.length d2] 30)).drew.heap.size (wr.alloc (.cells #[.string u.f0,.slice B1 u.f1.length d1,.slice B2 u.f2.length d2] 30)).drew W)=>(show W.cell? ⟨wr.heap.size,0,none⟩=some (.string u.f0)∧W.cell? ⟨wr.heap.size,1,none⟩=some (.slice B1 u.f1.length d1)∧W.cell? ⟨wr.heap.size,2,none⟩=some (.slice B2 u.f2.length d2)∧W.cell? ⟨w.heap.size+1,1,none⟩=some (.slice (some ag) t.f2.length c)∧W.cell? (ag.add y.toNat)=some (.string sa)from And.intro (blk_cell (blk_below HN0.out hW) 0) (And.intro (blk_cell (blk_below HN0.out hW) 1) (And.intro (blk_cell (blk_below HN0.out hW) 2) (And.intro (blk_cell (blk_below (blk_below B7.out HBw.out) hW) 1) (HG.out _ (below_step HBw.out hW)))))))
      have S0:=Aside0.mk (S00.out _ (Below.refl _ _))
      cases b with
      |false =>
       have HF:Aside0 (formedL l t.f2 g1=false):=⟨by rw[hLL.out];rfl⟩
       clear hLL
       go_region_held3 (fun w' =>w'.cell? ⟨wr.heap.size,0,none⟩=some (.string u.f0)∧w'.cell? ⟨wr.heap.size,1,none⟩=some (.slice B1 u.f1.length d1)∧w'.cell? ⟨wr.heap.size,2,none⟩=some (.slice B2 u.f2.length d2)∧w'.cell? ⟨w.heap.size+1,1,none⟩=some (.slice (some ag) t.f2.length c)∧w'.cell? (ag.add y.toNat)=some (.string sa))
        (first
         |(with_reducible exact S0.out)
         |(with_reducible exact S1.out))
        (first
         |(go_at_call 78;refine (D.out _ HBa.out).mono ?_;rintro e w2 ⟨rfl,hB2⟩;have S1:=Aside0.mk (S00.out _ hB2);have HB3:=Aside0.mk (below_step HBa.out hB2);clear hB2))
       go_wp2
       go_ret
       rw[HV3.out,HF.out]
       exact ⟨rfl,HB3.out⟩
      |true =>
       have HF:Aside0 (formedL l t.f2 g1=formedL l (t.f2.drop (y+1).toNat) (g1.drop (y+1).toNat)):=⟨by rw[hLL.out,Bool.true_and]⟩
       clear hLL
       go_region_held3 (fun w' =>w'.cell? ⟨wr.heap.size,0,none⟩=some (.string u.f0)∧w'.cell? ⟨wr.heap.size,1,none⟩=some (.slice B1 u.f1.length d1)∧w'.cell? ⟨wr.heap.size,2,none⟩=some (.slice B2 u.f2.length d2)∧w'.cell? ⟨w.heap.size+1,1,none⟩=some (.slice (some ag) t.f2.length c)∧w'.cell? (ag.add y.toNat)=some (.string sa))
        (first
         |(with_reducible exact S0.out)
         |(with_reducible exact S1.out))
        (first
         |(go_at_call 78;refine (D.out _ HBa.out).mono ?_;rintro e w2 ⟨rfl,hB2⟩;have S1:=Aside0.mk (S00.out _ hB2);have HB3:=Aside0.mk (below_step HBw.out hB2);clear hB2))
       go_wp2
       go_roundw
       case rel=>exact ⟨y+1,rfl,by omega,by omega,HB3,HF⟩
       case measure=>simp[intOf];omega
     ·have HF:Aside0 (formedL l t.f2 g1=true):=⟨by rw[HL.out,List.drop_eq_nil_of_le (by omega)];simp[formedL]⟩
      have HB3:=Aside0.mk (below_step HB2.out HBL.out)
      clear HL
      go_wp2
      go_ret
      rw[HV3.out,HF.out]
      exact ⟨rfl,HB3.out⟩)
theorem formed_aux (mb:Nat) (l:List S160):∀(n:Nat) (t:S30),tsz t<n→Sm t→∀(w:World) (A1:Option Addr) (c1:Nat) (A2:Option Addr) (c2:Nat) (cat:ByteArray),FnsAt w mb l→(Kd.int .i64).C w A1 t.f1.length t.f1→t.f1.length≤c1→k30.C w A2 t.f2.length t.f2→t.f2.length≤c2 →
  Calls Tryz.prog 78 #[.map (some mb),.agg #[.string t.f0,.slice A1 t.f1.length c1,.slice A2 t.f2.length c2],.string cat] w fun e w' =>e= .returned (.bool (formedP l t cat))∧Below w.heap.size w w'
 |0,t,ht,_=>absurd ht (Nat.not_lt_zero _)
 |n+1,t,ht,hs=>fun w A1 c1 A2 c2 cat h h1 l1 h2 l2=>by
  cases hc:isCat cat with
  |false=>rw[formedP_leaf hc];exact formed_leaf w mb t A1 c1 A2 c2 cat hc
  |true =>
   rw[formedP_cat hc]
   cases hg:fnOf l t.f0 with
   |none=>exact formed_none w mb l h t ((Sm.eq t).1 hs).1 A1 c1 A2 c2 cat hc (fun g hg' =>by rw[hg]at hg';cases hg')
   |some g =>
    cases hf:headFits g cat t.f1.length t.f2.length with
    |false =>
     simp only[hf,Bool.false_and]
     exact formed_none w mb l h t ((Sm.eq t).1 hs).1 A1 c1 A2 c2 cat hc (fun g' hg' =>by rw[hg]at hg';injection hg' with hg';rw[←hg'];exact hf)
    |true =>
     simp only[hf,Bool.true_and]
     exact formed_fit w mb l h t hs A1 c1 A2 c2 cat h1 l1 h2 l2 hc g hg hf (fun x B1 d1 B2 d2 cat' W hx hB g1 m1 g2 m2=>formed_aux mb l n x (Nat.lt_of_lt_of_le (Nat.lt_trans (mem_lt hx) (kids_lt t)) (Nat.le_of_lt_succ ht)) (SmL.mem ((Sm.eq t).1 hs).2.2.2 hx) W B1 d1 B2 d2 cat' (h.below hB) g1 m1 g2 m2)
theorem formed_calls (w:World) (mb:Nat) (l:List S160) (h:FnsAt w mb l) (t:S30) (hs:Sm t) (A1:Option Addr) (c1:Nat) (A2:Option Addr) (c2:Nat) (cat:ByteArray) (h1:(Kd.int .i64).C w A1 t.f1.length t.f1) (l1:t.f1.length≤c1) (h2:k30.C w A2 t.f2.length t.f2) (l2:t.f2.length≤c2) :
  Calls Tryz.prog 78 #[.map (some mb),.agg #[.string t.f0,.slice A1 t.f1.length c1,.slice A2 t.f2.length c2],.string cat] w fun e w' =>e= .returned (.bool (formedP l t cat))∧Below w.heap.size w w' :=
 formed_aux mb l (tsz t+1) t (Nat.lt_succ_self _) hs w A1 c1 A2 c2 cat h h1 l1 h2 l2
end Go.Proofs.YtcfjomnihhdpaaaGreatDoor.A
