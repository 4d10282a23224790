/-
  A part of the proof: R49, R50, R53, R54, R55, R56, R57, Q39.
-/
import Derived.Lib.QuoteLoop
import Derived.Lib.DecodeNEq
import Derived.Lib.MapLaws
import Derived.Lib.ItoaNum
import Derived.Test.YtcfjomnihhdpaaaGreatDoorBu9
namespace Go.Proofs.YtcfjomnihhdpaaaGreatDoor.A
open Go.RowKit Go.Proofs.YtcfjomnihhdpaaaGreatDoorW.PrintWords Go.Proofs.YtcfjomnihhdpaaaGreatDoorW.PrintLast Go.Proofs.YtcfjomnihhdpaaaGreatDoorW.PrintMore
set_option linter.unusedVariables false
set_option linter.unusedSimpArgs false
theorem fin3_far {W:World} {g k:Nat} (hk:k≠g) (a b c:Value):(((W.setCell ⟨g,0,none⟩ a).setCell ⟨g,1,none⟩ b).setCell ⟨g,2,none⟩ c).heap[k]? =W.heap[k]? :=
 (Below.heap_setCell _ ⟨g,2,none⟩ _ k hk).trans ((Below.heap_setCell _ ⟨g,1,none⟩ _ k hk).trans (Below.heap_setCell _ ⟨g,0,none⟩ _ k hk))
def modalF (f:ByteArray):Bool:=(f.toList == ([65,115,115,101,114,116]:List UInt8)) || (f.toList == ([77,117,115,116]:List UInt8)) || (f.toList == ([77,117,115,116,78,111,116]:List UInt8)) || (f.toList == ([77,97,121]:List UInt8))
def passF (f:ByteArray):Bool:=(f.toList == ([68,117,114,105,110,103]:List UInt8)) || (f.toList == ([83,105,110,99,101]:List UInt8)) || (f.toList == ([85,110,116,105,108]:List UInt8)) || (f.toList == ([80,108,101,97,115,101]:List UInt8)) || (f.toList == ([65,108,115,111]:List UInt8))
def subjP:S30→Option S30
 |⟨_,_,[]⟩=>none
 |⟨f,_,k::_⟩=>if modalF f=true then some k else if passF f=true then subjP k else none
theorem subjP_none {t:S30} (h:t.f2.length=0):subjP t=none:=by
 obtain ⟨f,vs,ks⟩:=t
 obtain rfl:=List.length_eq_zero_iff.1 h
 rw[subjP]
theorem subjP_some {t:S30} (h:0<t.f2.length):subjP t=if modalF t.f0=true then some (kidOf t 0)else if passF t.f0=true then subjP (kidOf t 0)else none:=by
 obtain ⟨f,vs,ks⟩:=t
 match ks,h with
 |k::r,_=>rw[subjP];rfl
def SubjRet (w0 w:World) (r:Option S30) (e:Ending) (w' :World):Prop:=Below w.heap.size w w' ∧match r with
 |some s=>∃B1 d1 B2 d2,e= .returned (.tuple #[.agg #[.string s.f0,.slice B1 s.f1.length d1,.slice B2 s.f2.length d2],.bool true])∧TreeV w0 s B1 d1 B2 d2
 |none=>e= .returned (.tuple #[.agg #[.string ⟨#[]⟩,.slice none 0 0,.slice none 0 0],.bool false])
theorem SubjRet.yes {w0 w w' :World} {s:S30} {B1:Option Addr} {d1:Nat} {B2:Option Addr} {d2:Nat} (hB:Below w.heap.size w w') (h:TreeV w0 s B1 d1 B2 d2):SubjRet w0 w (some s) (.returned (.tuple #[.agg #[.string s.f0,.slice B1 s.f1.length d1,.slice B2 s.f2.length d2],.bool true])) w' :=⟨hB,_,_,_,_,rfl,h⟩
theorem SubjRet.no {w0 w w' :World} (hB:Below w.heap.size w w'):SubjRet w0 w none (.returned (.tuple #[.agg #[.string ⟨#[]⟩,.slice none 0 0,.slice none 0 0],.bool false])) w' :=⟨hB,rfl⟩
set_option maxHeartbeats 2000000 in
set_option maxRecDepth 100000 in
theorem subj_empty (t:S30) (h:t.f2.length=0) (w0 w:World) (A1:Option Addr) (c1:Nat) (A2:Option Addr) (c2:Nat) :
  Calls Tryz.prog 19 #[.agg #[.string t.f0,.slice A1 t.f1.length c1,.slice A2 t.f2.length c2]] w (SubjRet w0 w (subjP t)):=by
 rw[subjP_none h,h]
 clear h
 have HB:=Aside0.mk (below_alloc (below_alloc (Below.refl w.heap.size w) (.cells #[.string t.f0,.slice A1 t.f1.length c1,.slice A2 0 c2] 30)) (.cells #[.string ⟨#[]⟩,.slice none 0 0,.slice none 0 0] 30))
 go_enter Tryz.func19,Tryz.ntmps19
 go_wp2
 refine bodyPost_ret (results_list (rs:=[.cell 2 30,.tmp 3]) rfl (by simp) (.cell (w.heap.size+1) 30 _ (0,0) _ rfl (new2 w (.cells #[.string t.f0,.slice A1 t.f1.length c1,.slice A2 0 c2] 30) (.cells #[.string ⟨#[]⟩,.slice none 0 0,.slice none 0 0] 30)) Tryz.underlying30 rfl (by kernel_rfl) (.tmp .nil))) rfl ?_
 exact SubjRet.no HB.out
set_option maxHeartbeats 4000000 in
set_option maxRecDepth 100000 in
theorem subj_step (t:S30) (h:0<t.f2.length) (w0 w:World) (A1:Option Addr) (c1:Nat) (A2:Option Addr) (c2:Nat) (h0:Below w0.heap.size w0 w) (tv:TreeV w0 t A1 c1 A2 c2)
  (ih:∀(B1:Option Addr) (d1:Nat) (B2:Option Addr) (d2:Nat) (W:World),Below w0.heap.size w0 W→TreeV w0 (kidOf t 0) B1 d1 B2 d2→Calls Tryz.prog 19 #[.agg #[.string (kidOf t 0).f0,.slice B1 (kidOf t 0).f1.length d1,.slice B2 (kidOf t 0).f2.length d2]] W (SubjRet w0 W (subjP (kidOf t 0)))) :
  Calls Tryz.prog 19 #[.agg #[.string t.f0,.slice A1 t.f1.length c1,.slice A2 t.f2.length c2]] w (SubjRet w0 w (subjP t)):=by
 rw[subjP_some h]
 obtain ⟨ad,B1,d1,B2,d2,e,y0,y1,y2,hl1,hi1,hl2,hi2⟩:=at_T30 tv.k 0 (by omega) (by omega)
 subst e
 have ha0:ad.add ((0:Int).toNat*3)=ad:=Addr.add_zero' ad
 rw[ha0]at y0 y1 y2
 clear ha0
 have HV:=Aside0.mk (show TreeV w0 (kidOf t 0) B1 d1 B2 d2 from ⟨hl1,hi1,hl2,hi2⟩)
 replace y0:w0.cell? _=some (.string (kidOf t 0).f0):=y0
 replace y1:w0.cell? _=some (.slice B1 (kidOf t 0).f1.length d1):=y1
 replace y2:w0.cell? _=some (.slice B2 (kidOf t 0).f2.length d2):=y2
 clear hl1 hi1 hl2 hi2 tv
 have HB1:=Aside0.mk (below_alloc (Below.refl w.heap.size w) (.cells #[.string t.f0,.slice A1 t.f1.length c1,.slice (some ad) t.f2.length c2] 30))
 have HB:=Aside0.mk (below_alloc HB1.out (.cells #[.string ⟨#[]⟩,.slice none 0 0,.slice none 0 0] 30))
 have HR:=Aside0.mk (new2 w (.cells #[.string t.f0,.slice A1 t.f1.length c1,.slice (some ad) t.f2.length c2] 30) (.cells #[.string ⟨#[]⟩,.slice none 0 0,.slice none 0 0] 30))
 have HB0:=Aside0.mk (below_step h0 HB.out)
 replace y0:=pw_cell_below HB0.out y0
 replace y1:=pw_cell_below HB0.out y1
 replace y2:=pw_cell_below HB0.out y2
 have C:=Aside0.mk (ih B1 d1 B2 d2 _ HB0.out HV.out)
 have hne:((t.f2.length:Int) == 0)=false:=beq_eq_false_iff_ne.mpr (by omega)
 have hne2:¬((t.f2.length:Int)=0):=by omega
 have hk0:0<t.f2.length:=h
 clear ih h0 h
 unfold modalF passF
 generalize subjP (kidOf t 0)=r at *
 generalize kidOf t 0=kid at *
 cases q0:(t.f0.toList == ([65,115,115,101,114,116]:List UInt8))with
 |true =>
  go_enter Tryz.func19,Tryz.ntmps19
  go_wp2
  refine bodyPost_ret (results_list (rs:=[.cell 2 30,.tmp 3]) rfl (by simp) (.cell (w.heap.size+1) 30 _ (0,0) _ rfl (new2 w (.cells #[.string t.f0,.slice A1 t.f1.length c1,.slice (some ad) t.f2.length c2] 30) (.cells #[.string kid.f0,.slice B1 kid.f1.length d1,.slice B2 kid.f2.length d2] 30)) Tryz.underlying30 rfl (by kernel_rfl) (.tmp .nil))) rfl ?_
  simp only[q0,Bool.true_or,Bool.or_true,Bool.false_or,Bool.or_false,if_true]
  exact SubjRet.yes (below_alloc HB1.out _) HV.out
 |false =>
  cases q1:(t.f0.toList == ([77,117,115,116]:List UInt8))with
  |true =>
   go_enter Tryz.func19,Tryz.ntmps19
   go_wp2
   refine bodyPost_ret (results_list (rs:=[.cell 2 30,.tmp 3]) rfl (by simp) (.cell (w.heap.size+1) 30 _ (0,0) _ rfl (new2 w (.cells #[.string t.f0,.slice A1 t.f1.length c1,.slice (some ad) t.f2.length c2] 30) (.cells #[.string kid.f0,.slice B1 kid.f1.length d1,.slice B2 kid.f2.length d2] 30)) Tryz.underlying30 rfl (by kernel_rfl) (.tmp .nil))) rfl ?_
   simp only[q0,q1,Bool.true_or,Bool.or_true,Bool.false_or,Bool.or_false,if_true]
   exact SubjRet.yes (below_alloc HB1.out _) HV.out
  |false =>
   cases q2:(t.f0.toList == ([77,117,115,116,78,111,116]:List UInt8))with
   |true =>
    go_enter Tryz.func19,Tryz.ntmps19
    go_wp2
    refine bodyPost_ret (results_list (rs:=[.cell 2 30,.tmp 3]) rfl (by simp) (.cell (w.heap.size+1) 30 _ (0,0) _ rfl (new2 w (.cells #[.string t.f0,.slice A1 t.f1.length c1,.slice (some ad) t.f2.length c2] 30) (.cells #[.string kid.f0,.slice B1 kid.f1.length d1,.slice B2 kid.f2.length d2] 30)) Tryz.underlying30 rfl (by kernel_rfl) (.tmp .nil))) rfl ?_
    simp only[q0,q1,q2,Bool.true_or,Bool.or_true,Bool.false_or,Bool.or_false,if_true]
    exact SubjRet.yes (below_alloc HB1.out _) HV.out
   |false =>
    cases q3:(t.f0.toList == ([77,97,121]:List UInt8))with
    |true =>
     go_enter Tryz.func19,Tryz.ntmps19
     go_wp2
     refine bodyPost_ret (results_list (rs:=[.cell 2 30,.tmp 3]) rfl (by simp) (.cell (w.heap.size+1) 30 _ (0,0) _ rfl (new2 w (.cells #[.string t.f0,.slice A1 t.f1.length c1,.slice (some ad) t.f2.length c2] 30) (.cells #[.string kid.f0,.slice B1 kid.f1.length d1,.slice B2 kid.f2.length d2] 30)) Tryz.underlying30 rfl (by kernel_rfl) (.tmp .nil))) rfl ?_
     simp only[q0,q1,q2,q3,Bool.true_or,Bool.or_true,Bool.false_or,Bool.or_false,if_true]
     exact SubjRet.yes (below_alloc HB1.out _) HV.out
    |false =>
     cases q4:(t.f0.toList == ([68,117,114,105,110,103]:List UInt8))with
     |true =>
      cases r with
      |none =>
       go_enter Tryz.func19,Tryz.ntmps19
       go_wp2_with (go_at_call 19;refine C.out.mono ?_;rintro e w2 ⟨hB2,rfl⟩;have HB2:=Aside0.mk (below_step HB.out hB2);have HR2:=Aside0.mk (blk_below HR.out hB2);have r0:=blk_cell HR2.out 0;have r1:=blk_cell HR2.out 1;have r2:=blk_cell HR2.out 2;have f0:=blk_frozen HR2.out 0;have f1:=blk_frozen HR2.out 1;have f2:=blk_frozen HR2.out 2;simp at r0 r1 r2;clear hB2)
       refine bodyPost_ret (results_list (rs:=[.cell 2 30,.tmp 3]) rfl (by simp) (.cell (w.heap.size+1) 30 _ (0,0) _ rfl (fin3 (W:=w2) HR2.out (.string ⟨#[]⟩) (.slice none 0 0) (.slice none 0 0)) Tryz.underlying30 rfl (by kernel_rfl) (.tmp .nil))) rfl ?_
       simp only[q0,q1,q2,q3,q4,Bool.true_or,Bool.or_true,Bool.false_or,Bool.or_false,if_true,Bool.false_eq_true,if_false]
       exact SubjRet.no (fin3_below HB2.out (Nat.le_succ _) _ _ _)
      |some s =>
       go_enter Tryz.func19,Tryz.ntmps19
       go_wp2_with (go_at_call 19;refine C.out.mono ?_;rintro e w2 ⟨hB2,E1,x1,E2,x2,rfl,hs⟩;have HS:=Aside0.mk hs;clear hs;have HB2:=Aside0.mk (below_step HB.out hB2);have HR2:=Aside0.mk (blk_below HR.out hB2);have r0:=blk_cell HR2.out 0;have r1:=blk_cell HR2.out 1;have r2:=blk_cell HR2.out 2;have f0:=blk_frozen HR2.out 0;have f1:=blk_frozen HR2.out 1;have f2:=blk_frozen HR2.out 2;simp at r0 r1 r2;clear hB2)
       refine bodyPost_ret (results_list (rs:=[.cell 2 30,.tmp 3]) rfl (by simp) (.cell (w.heap.size+1) 30 _ (0,0) _ rfl (fin3 (W:=w2) HR2.out (.string s.f0) (.slice E1 s.f1.length x1) (.slice E2 s.f2.length x2)) Tryz.underlying30 rfl (by kernel_rfl) (.tmp .nil))) rfl ?_
       simp only[q0,q1,q2,q3,q4,Bool.true_or,Bool.or_true,Bool.false_or,Bool.or_false,if_true,Bool.false_eq_true,if_false]
       exact SubjRet.yes (fin3_below HB2.out (Nat.le_succ _) _ _ _) HS.out
     |false =>
      cases q5:(t.f0.toList == ([83,105,110,99,101]:List UInt8))with
      |true =>
       cases r with
       |none =>
        go_enter Tryz.func19,Tryz.ntmps19
        go_wp2_with (go_at_call 19;refine C.out.mono ?_;rintro e w2 ⟨hB2,rfl⟩;have HB2:=Aside0.mk (below_step HB.out hB2);have HR2:=Aside0.mk (blk_below HR.out hB2);have r0:=blk_cell HR2.out 0;have r1:=blk_cell HR2.out 1;have r2:=blk_cell HR2.out 2;have f0:=blk_frozen HR2.out 0;have f1:=blk_frozen HR2.out 1;have f2:=blk_frozen HR2.out 2;simp at r0 r1 r2;clear hB2)
        refine bodyPost_ret (results_list (rs:=[.cell 2 30,.tmp 3]) rfl (by simp) (.cell (w.heap.size+1) 30 _ (0,0) _ rfl (fin3 (W:=w2) HR2.out (.string ⟨#[]⟩) (.slice none 0 0) (.slice none 0 0)) Tryz.underlying30 rfl (by kernel_rfl) (.tmp .nil))) rfl ?_
        simp only[q0,q1,q2,q3,q4,q5,Bool.true_or,Bool.or_true,Bool.false_or,Bool.or_false,if_true,Bool.false_eq_true,if_false]
        exact SubjRet.no (fin3_below HB2.out (Nat.le_succ _) _ _ _)
       |some s =>
        go_enter Tryz.func19,Tryz.ntmps19
        go_wp2_with (go_at_call 19;refine C.out.mono ?_;rintro e w2 ⟨hB2,E1,x1,E2,x2,rfl,hs⟩;have HS:=Aside0.mk hs;clear hs;have HB2:=Aside0.mk (below_step HB.out hB2);have HR2:=Aside0.mk (blk_below HR.out hB2);have r0:=blk_cell HR2.out 0;have r1:=blk_cell HR2.out 1;have r2:=blk_cell HR2.out 2;have f0:=blk_frozen HR2.out 0;have f1:=blk_frozen HR2.out 1;have f2:=blk_frozen HR2.out 2;simp at r0 r1 r2;clear hB2)
        refine bodyPost_ret (results_list (rs:=[.cell 2 30,.tmp 3]) rfl (by simp) (.cell (w.heap.size+1) 30 _ (0,0) _ rfl (fin3 (W:=w2) HR2.out (.string s.f0) (.slice E1 s.f1.length x1) (.slice E2 s.f2.length x2)) Tryz.underlying30 rfl (by kernel_rfl) (.tmp .nil))) rfl ?_
        simp only[q0,q1,q2,q3,q4,q5,Bool.true_or,Bool.or_true,Bool.false_or,Bool.or_false,if_true,Bool.false_eq_true,if_false]
        exact SubjRet.yes (fin3_below HB2.out (Nat.le_succ _) _ _ _) HS.out
      |false =>
       cases q6:(t.f0.toList == ([85,110,116,105,108]:List UInt8))with
       |true =>
        cases r with
        |none =>
         go_enter Tryz.func19,Tryz.ntmps19
         go_wp2_with (go_at_call 19;refine C.out.mono ?_;rintro e w2 ⟨hB2,rfl⟩;have HB2:=Aside0.mk (below_step HB.out hB2);have HR2:=Aside0.mk (blk_below HR.out hB2);have r0:=blk_cell HR2.out 0;have r1:=blk_cell HR2.out 1;have r2:=blk_cell HR2.out 2;have f0:=blk_frozen HR2.out 0;have f1:=blk_frozen HR2.out 1;have f2:=blk_frozen HR2.out 2;simp at r0 r1 r2;clear hB2)
         refine bodyPost_ret (results_list (rs:=[.cell 2 30,.tmp 3]) rfl (by simp) (.cell (w.heap.size+1) 30 _ (0,0) _ rfl (fin3 (W:=w2) HR2.out (.string ⟨#[]⟩) (.slice none 0 0) (.slice none 0 0)) Tryz.underlying30 rfl (by kernel_rfl) (.tmp .nil))) rfl ?_
         simp only[q0,q1,q2,q3,q4,q5,q6,Bool.true_or,Bool.or_true,Bool.false_or,Bool.or_false,if_true,Bool.false_eq_true,if_false]
         exact SubjRet.no (fin3_below HB2.out (Nat.le_succ _) _ _ _)
        |some s =>
         go_enter Tryz.func19,Tryz.ntmps19
         go_wp2_with (go_at_call 19;refine C.out.mono ?_;rintro e w2 ⟨hB2,E1,x1,E2,x2,rfl,hs⟩;have HS:=Aside0.mk hs;clear hs;have HB2:=Aside0.mk (below_step HB.out hB2);have HR2:=Aside0.mk (blk_below HR.out hB2);have r0:=blk_cell HR2.out 0;have r1:=blk_cell HR2.out 1;have r2:=blk_cell HR2.out 2;have f0:=blk_frozen HR2.out 0;have f1:=blk_frozen HR2.out 1;have f2:=blk_frozen HR2.out 2;simp at r0 r1 r2;clear hB2)
         refine bodyPost_ret (results_list (rs:=[.cell 2 30,.tmp 3]) rfl (by simp) (.cell (w.heap.size+1) 30 _ (0,0) _ rfl (fin3 (W:=w2) HR2.out (.string s.f0) (.slice E1 s.f1.length x1) (.slice E2 s.f2.length x2)) Tryz.underlying30 rfl (by kernel_rfl) (.tmp .nil))) rfl ?_
         simp only[q0,q1,q2,q3,q4,q5,q6,Bool.true_or,Bool.or_true,Bool.false_or,Bool.or_false,if_true,Bool.false_eq_true,if_false]
         exact SubjRet.yes (fin3_below HB2.out (Nat.le_succ _) _ _ _) HS.out
       |false =>
        cases q7:(t.f0.toList == ([80,108,101,97,115,101]:List UInt8))with
        |true =>
         cases r with
         |none =>
          go_enter Tryz.func19,Tryz.ntmps19
          go_wp2_with (go_at_call 19;refine C.out.mono ?_;rintro e w2 ⟨hB2,rfl⟩;have HB2:=Aside0.mk (below_step HB.out hB2);have HR2:=Aside0.mk (blk_below HR.out hB2);have r0:=blk_cell HR2.out 0;have r1:=blk_cell HR2.out 1;have r2:=blk_cell HR2.out 2;have f0:=blk_frozen HR2.out 0;have f1:=blk_frozen HR2.out 1;have f2:=blk_frozen HR2.out 2;simp at r0 r1 r2;clear hB2)
          refine bodyPost_ret (results_list (rs:=[.cell 2 30,.tmp 3]) rfl (by simp) (.cell (w.heap.size+1) 30 _ (0,0) _ rfl (fin3 (W:=w2) HR2.out (.string ⟨#[]⟩) (.slice none 0 0) (.slice none 0 0)) Tryz.underlying30 rfl (by kernel_rfl) (.tmp .nil))) rfl ?_
          simp only[q0,q1,q2,q3,q4,q5,q6,q7,Bool.true_or,Bool.or_true,Bool.false_or,Bool.or_false,if_true,Bool.false_eq_true,if_false]
          exact SubjRet.no (fin3_below HB2.out (Nat.le_succ _) _ _ _)
         |some s =>
          go_enter Tryz.func19,Tryz.ntmps19
          go_wp2_with (go_at_call 19;refine C.out.mono ?_;rintro e w2 ⟨hB2,E1,x1,E2,x2,rfl,hs⟩;have HS:=Aside0.mk hs;clear hs;have HB2:=Aside0.mk (below_step HB.out hB2);have HR2:=Aside0.mk (blk_below HR.out hB2);have r0:=blk_cell HR2.out 0;have r1:=blk_cell HR2.out 1;have r2:=blk_cell HR2.out 2;have f0:=blk_frozen HR2.out 0;have f1:=blk_frozen HR2.out 1;have f2:=blk_frozen HR2.out 2;simp at r0 r1 r2;clear hB2)
          refine bodyPost_ret (results_list (rs:=[.cell 2 30,.tmp 3]) rfl (by simp) (.cell (w.heap.size+1) 30 _ (0,0) _ rfl (fin3 (W:=w2) HR2.out (.string s.f0) (.slice E1 s.f1.length x1) (.slice E2 s.f2.length x2)) Tryz.underlying30 rfl (by kernel_rfl) (.tmp .nil))) rfl ?_
          simp only[q0,q1,q2,q3,q4,q5,q6,q7,Bool.true_or,Bool.or_true,Bool.false_or,Bool.or_false,if_true,Bool.false_eq_true,if_false]
          exact SubjRet.yes (fin3_below HB2.out (Nat.le_succ _) _ _ _) HS.out
        |false =>
         cases q8:(t.f0.toList == ([65,108,115,111]:List UInt8))with
         |true =>
          cases r with
          |none =>
           go_enter Tryz.func19,Tryz.ntmps19
           go_wp2_with (go_at_call 19;refine C.out.mono ?_;rintro e w2 ⟨hB2,rfl⟩;have HB2:=Aside0.mk (below_step HB.out hB2);have HR2:=Aside0.mk (blk_below HR.out hB2);have r0:=blk_cell HR2.out 0;have r1:=blk_cell HR2.out 1;have r2:=blk_cell HR2.out 2;have f0:=blk_frozen HR2.out 0;have f1:=blk_frozen HR2.out 1;have f2:=blk_frozen HR2.out 2;simp at r0 r1 r2;clear hB2)
           refine bodyPost_ret (results_list (rs:=[.cell 2 30,.tmp 3]) rfl (by simp) (.cell (w.heap.size+1) 30 _ (0,0) _ rfl (fin3 (W:=w2) HR2.out (.string ⟨#[]⟩) (.slice none 0 0) (.slice none 0 0)) Tryz.underlying30 rfl (by kernel_rfl) (.tmp .nil))) rfl ?_
           simp only[q0,q1,q2,q3,q4,q5,q6,q7,q8,Bool.true_or,Bool.or_true,Bool.false_or,Bool.or_false,if_true,Bool.false_eq_true,if_false]
           exact SubjRet.no (fin3_below HB2.out (Nat.le_succ _) _ _ _)
          |some s =>
           go_enter Tryz.func19,Tryz.ntmps19
           go_wp2_with (go_at_call 19;refine C.out.mono ?_;rintro e w2 ⟨hB2,E1,x1,E2,x2,rfl,hs⟩;have HS:=Aside0.mk hs;clear hs;have HB2:=Aside0.mk (below_step HB.out hB2);have HR2:=Aside0.mk (blk_below HR.out hB2);have r0:=blk_cell HR2.out 0;have r1:=blk_cell HR2.out 1;have r2:=blk_cell HR2.out 2;have f0:=blk_frozen HR2.out 0;have f1:=blk_frozen HR2.out 1;have f2:=blk_frozen HR2.out 2;simp at r0 r1 r2;clear hB2)
           refine bodyPost_ret (results_list (rs:=[.cell 2 30,.tmp 3]) rfl (by simp) (.cell (w.heap.size+1) 30 _ (0,0) _ rfl (fin3 (W:=w2) HR2.out (.string s.f0) (.slice E1 s.f1.length x1) (.slice E2 s.f2.length x2)) Tryz.underlying30 rfl (by kernel_rfl) (.tmp .nil))) rfl ?_
           simp only[q0,q1,q2,q3,q4,q5,q6,q7,q8,Bool.true_or,Bool.or_true,Bool.false_or,Bool.or_false,if_true,Bool.false_eq_true,if_false]
           exact SubjRet.yes (fin3_below HB2.out (Nat.le_succ _) _ _ _) HS.out
         |false =>
          go_enter Tryz.func19,Tryz.ntmps19
          go_wp2
          refine bodyPost_ret (results_list (rs:=[.cell 2 30,.tmp 3]) rfl (by simp) (.cell (w.heap.size+1) 30 _ (0,0) _ rfl (new2 w (.cells #[.string t.f0,.slice A1 t.f1.length c1,.slice (some ad) t.f2.length c2] 30) (.cells #[.string ⟨#[]⟩,.slice none 0 0,.slice none 0 0] 30)) Tryz.underlying30 rfl (by kernel_rfl) (.tmp .nil))) rfl ?_
          simp only[q0,q1,q2,q3,q4,q5,q6,q7,q8]
          exact SubjRet.no HB.out
theorem subj_calls:∀(n:Nat) (t:S30),nodes t≤n→∀(w0 w:World) (A1:Option Addr) (c1:Nat) (A2:Option Addr) (c2:Nat),Below w0.heap.size w0 w→TreeV w0 t A1 c1 A2 c2 →
  Calls Tryz.prog 19 #[.agg #[.string t.f0,.slice A1 t.f1.length c1,.slice A2 t.f2.length c2]] w (SubjRet w0 w (subjP t))
 |0,t,hn=>absurd hn (by have:=nodes_eq t;omega)
 |n+1,t,hn=>fun w0 w A1 c1 A2 c2 h0 tv=>by
  by_cases h:t.f2.length=0
  ·exact subj_empty t h w0 w A1 c1 A2 c2
  ·exact subj_step t (by omega) w0 w A1 c1 A2 c2 h0 tv (fun B1 d1 B2 d2 W hW hv=>subj_calls n (kidOf t 0) (nodes_kid hn (by omega)) w0 W B1 d1 B2 d2 hW hv)
def withP:S30→S30→Option S30
 |⟨_,_,[]⟩,_=>none
 |⟨f,vs,k::r⟩,np=>if modalF f=true then some ⟨f,vs,np::r⟩else if passF f=true then (withP k np).map fun x=>⟨f,vs,x::r⟩else none
theorem withP_none {t np:S30} (h:t.f2.length=0):withP t np=none:=by
 obtain ⟨f,vs,ks⟩:=t
 obtain rfl:=List.length_eq_zero_iff.1 h
 rw[withP]
theorem withP_some {t np:S30} (h:0<t.f2.length):withP t np=if modalF t.f0=true then some ⟨t.f0,t.f1,np::t.f2.drop 1⟩else if passF t.f0=true then (withP (kidOf t 0) np).map fun x=>⟨t.f0,t.f1,x::t.f2.drop 1⟩else none:=by
 obtain ⟨f,vs,ks⟩:=t
 match ks,h with
 |k::r,_=>rw[withP];rfl
theorem with_subj (np:S30):∀(n:Nat) (t:S30),nodes t≤n→(withP t np).isSome=(subjP t).isSome
 |0,t,hn=>absurd hn (by have:=nodes_eq t;omega)
 |n+1,t,hn=>by
  by_cases h:t.f2.length=0
  ·rw[withP_none h,subjP_none h]
  ·rw[withP_some (by omega),subjP_some (by omega)]
   have ih:=with_subj np n (kidOf t 0) (nodes_kid hn (by omega))
   by_cases h1:modalF t.f0=true
   ·rw[if_pos h1,if_pos h1];rfl
   ·rw[if_neg h1,if_neg h1]
    by_cases h2:passF t.f0=true
    ·rw[if_pos h2,if_pos h2,←ih]
     cases withP (kidOf t 0) np<;>rfl
    ·rw[if_neg h2,if_neg h2]
theorem nodesL_drop (l:List S30) (h:0<l.length):nodesL l=nodes (l.getD 0 z30)+nodesL (l.drop 1):=by
 match l,h with
 |k::r,_=>rw[nodesL];rfl
theorem with_nodes (np:S30):∀(n:Nat) (t x:S30),nodes t≤n→withP t np=some x→nodes x+1≤nodes t+nodes np
 |0,t,x,hn,_=>absurd hn (by have:=nodes_eq t;omega)
 |n+1,t,x,hn,hx=>by
  by_cases h:t.f2.length=0
  ·rw[withP_none h]at hx;cases hx
  ·rw[withP_some (by omega)]at hx
   have e:=nodes_eq t
   have el:=nodesL_drop t.f2 (by omega)
   have hkp:1≤nodes (kidOf t 0):=by have:=nodes_eq (kidOf t 0);omega
   unfold kidOf at hkp
   by_cases h1:modalF t.f0=true
   ·rw[if_pos h1]at hx
    injection hx with hx
    subst hx
    rw[nodes_eq]
    simp only[nodesL]
    omega
   ·rw[if_neg h1]at hx
    by_cases h2:passF t.f0=true
    ·rw[if_pos h2]at hx
     cases hw:withP (kidOf t 0) np with
     |none=>rw[hw]at hx;cases hx
     |some y =>
      rw[hw]at hx
      injection hx with hx
      subst hx
      have ih:=with_nodes np n (kidOf t 0) y (nodes_kid hn (by omega)) hw
      unfold kidOf at ih
      rw[nodes_eq]
      simp only[nodesL]
      omega
    ·rw[if_neg h2]at hx;cases hx
structure TreeF (w:World) (ok:Nat→Prop) (t:S30) (A1:Option Addr) (c1:Nat) (A2:Option Addr) (c2:Nat):Prop where
 l1:t.f1.length≤c1
 v:Kd.F (Kd.int .i64) w ok A1 t.f1.length t.f1
 l2:t.f2.length≤c2
 k:Kd.F k30 w ok A2 t.f2.length t.f2
theorem TreeF.now {w:World} {ok:Nat→Prop} {t:S30} {A1:Option Addr} {c1:Nat} {A2:Option Addr} {c2:Nat} (h:TreeF w ok t A1 c1 A2 c2):TreeV w t A1 c1 A2 c2:=⟨h.l1,Kd.F_now h.v,h.l2,Kd.F_now h.k⟩
def WithRet (w0 w:World) (r:Option S30) (e:Ending) (w' :World):Prop:=Below w.heap.size w w' ∧match r with
 |some s=>∃B1 d1 B2 d2,e= .returned (.tuple #[.agg #[.string s.f0,.slice B1 s.f1.length d1,.slice B2 s.f2.length d2],.bool true])∧TreeF w' (fun k=>k<w0.heap.size∨w.heap.size≤k) s B1 d1 B2 d2
 |none=>e= .returned (.tuple #[.agg #[.string ⟨#[]⟩,.slice none 0 0,.slice none 0 0],.bool false])
theorem WithRet.yes {w0 w w' :World} {s:S30} {B1:Option Addr} {d1:Nat} {B2:Option Addr} {d2:Nat} (hB:Below w.heap.size w w') (h:TreeF w' (fun k=>k<w0.heap.size∨w.heap.size≤k) s B1 d1 B2 d2):WithRet w0 w (some s) (.returned (.tuple #[.agg #[.string s.f0,.slice B1 s.f1.length d1,.slice B2 s.f2.length d2],.bool true])) w' :=⟨hB,_,_,_,_,rfl,h⟩
theorem WithRet.no {w0 w w' :World} (hB:Below w.heap.size w w'):WithRet w0 w none (.returned (.tuple #[.agg #[.string ⟨#[]⟩,.slice none 0 0,.slice none 0 0],.bool false])) w' :=⟨hB,rfl⟩
set_option maxHeartbeats 2000000 in
set_option maxRecDepth 100000 in
theorem with_no (t np:S30) (hs:subjP t=none) (w0 w:World) (h0:Below w0.heap.size w0 w) (A1:Option Addr) (c1:Nat) (A2:Option Addr) (c2:Nat) (N1:Option Addr) (n1:Nat) (N2:Option Addr) (n2:Nat) (tv:TreeV w0 t A1 c1 A2 c2) :
  Calls Tryz.prog 21 #[.agg #[.string t.f0,.slice A1 t.f1.length c1,.slice A2 t.f2.length c2],.agg #[.string np.f0,.slice N1 np.f1.length n1,.slice N2 np.f2.length n2]] w (WithRet w0 w (withP t np)):=by
 have hn:withP t np=none:=by
  have:=with_subj np (nodes t) t (Nat.le_refl _)
  rw[hs]at this
  cases h:withP t np with
  |none=>rfl
  |some x=>rw[h]at this;cases this
 rw[hn]
 have HB:=Aside0.mk (below_alloc (below_alloc (below_alloc (Below.refl w.heap.size w) (.cells #[.string t.f0,.slice A1 t.f1.length c1,.slice A2 t.f2.length c2] 30)) (.cells #[.string np.f0,.slice N1 np.f1.length n1,.slice N2 np.f2.length n2] 30)) (.cells #[.string ⟨#[]⟩,.slice none 0 0,.slice none 0 0] 30))
 have HR:=Aside0.mk (show (((w.alloc (.cells #[.string t.f0,.slice A1 t.f1.length c1,.slice A2 t.f2.length c2] 30)).alloc (.cells #[.string np.f0,.slice N1 np.f1.length n1,.slice N2 np.f2.length n2] 30)).alloc (.cells #[.string ⟨#[]⟩,.slice none 0 0,.slice none 0 0] 30)).heap[w.heap.size+2]? =some (.cells #[.string ⟨#[]⟩,.slice none 0 0,.slice none 0 0] 30 (0,0))from (show ((w.alloc (.cells #[.string t.f0,.slice A1 t.f1.length c1,.slice A2 t.f2.length c2] 30)).alloc (.cells #[.string np.f0,.slice N1 np.f1.length n1,.slice N2 np.f2.length n2] 30)).heap.size=w.heap.size+2 by simp)▸blk_new ((w.alloc (.cells #[.string t.f0,.slice A1 t.f1.length c1,.slice A2 t.f2.length c2] 30)).alloc (.cells #[.string np.f0,.slice N1 np.f1.length n1,.slice N2 np.f2.length n2] 30)) (.cells #[.string ⟨#[]⟩,.slice none 0 0,.slice none 0 0] 30))
 have C:=Aside0.mk (subj_calls (nodes t) t (Nat.le_refl _) w0 _ A1 c1 A2 c2 (below_step h0 HB.out) tv)
 rw[hs]at C
 clear hs hn tv h0
 go_enter Tryz.func21,Tryz.ntmps21
 go_wp2_with (go_at_call 19;refine C.out.mono ?_;rintro e w2 ⟨hB2,rfl⟩;have HB2:=Aside0.mk (below_step HB.out hB2);have HR2:=Aside0.mk (fun (o:Obj)=>blk_alloc (blk_below HR.out hB2) o);have r0:=fun (o:Obj)=>blk_cell (HR2.out o) 0;have r1:=fun (o:Obj)=>blk_cell (HR2.out o) 1;have r2:=fun (o:Obj)=>blk_cell (HR2.out o) 2;have f0:=fun (o:Obj)=>blk_frozen (HR2.out o) 0;have f1:=fun (o:Obj)=>blk_frozen (HR2.out o) 1;have f2:=fun (o:Obj)=>blk_frozen (HR2.out o) 2;simp at r0 r1 r2;clear hB2)
 refine bodyPost_ret (results_list (rs:=[.cell 4 30,.tmp 5]) rfl (by simp) (.cell (w.heap.size+2) 30 _ (0,0) _ rfl (fin3 (W:=w2.alloc (.cells #[.string ⟨#[]⟩,.slice none 0 0,.slice none 0 0] 30)) (HR2.out _) (.string ⟨#[]⟩) (.slice none 0 0) (.slice none 0 0)) Tryz.underlying30 rfl (by kernel_rfl) (.tmp .nil))) rfl ?_
 exact WithRet.no (fin3_below (below_alloc HB2.out _) (by omega) _ _ _)
def dutyP (op:Int) (neg:Bool) (m:S70):S70:=if op=0 then (if neg then notP m else m)else nodeP op ⟨#[]⟩ 0 0 [if neg then notP m else m]
def modP (op:Int) (neg:Bool) (v:Prd):Prd:=fun depth x=>(v depth x).map (dutyP op neg)
def modalP (s:Sg) (op:Int) (neg:Bool) (t:S30):Option S70:=(verbP s (nodes (kidOf t 1)) (kidOf t 1)).bind fun v=>applyP s (nodes (kidOf t 0)) (kidOf t 0) 0 (modP op neg v)
def timeP (fr tl:Int) (m:S70):S70:=nodeP 10 ⟨#[]⟩ fr tl [m]
def linkP (op:Int) (x y:S70):S70:=nodeP op ⟨#[]⟩ 0 0 [x,y]
def sentP (s:Sg):Nat→S30→Option S70
 |0,_=>none
 |n+1,t =>
  if t.f0=nAssert then modalP s 0 false t
  else if t.f0=nMust then modalP s 11 false t
  else if t.f0=nMustNot then modalP s 11 true t
  else if t.f0=nMay then modalP s 12 false t
  else if t.f0=nDuring then (sentP s n (kidOf t 0)).map (timeP (rd t.f1 0) (rd t.f1 1))
  else if t.f0=nSince then (sentP s n (kidOf t 0)).map (timeP (rd t.f1 0) (-1))
  else if t.f0=nUntil then (sentP s n (kidOf t 0)).map (timeP (-1) (rd t.f1 0))
  else if t.f0=nAnd then (sentP s n (kidOf t 0)).bind fun x=>(sentP s n (kidOf t 1)).map (linkP 5 x)
  else if t.f0=nOr then (sentP s n (kidOf t 0)).bind fun x=>(sentP s n (kidOf t 1)).map (linkP 6 x)
  else if t.f0=nIf then (sentP s n (kidOf t 0)).bind fun x=>(sentP s n (kidOf t 1)).map (linkP 7 x)
  else if t.f0=nPlease then sentP s n (kidOf t 0)
  else (withP (kidOf t 0) (kidOf t 1)).bind fun o=>(sentP s n (kidOf t 0)).bind fun x=>(sentP s n o).map (bothP x)
theorem kidOf_out {t:S30} {i:Nat} (h:¬i<t.f2.length):kidOf t i=z30:=by
 unfold kidOf
 rw[List.getD_eq_getElem?_getD,List.getElem?_eq_none (by omega)]
 rfl
theorem withP_z (np:S30):withP z30 np=none:=withP_none rfl
theorem z30_f0 (x:ByteArray) (h:0<x.size):¬z30.f0=x:=by
 intro e
 rw[←e]at h
 exact absurd h (by decide)
theorem sentP_z (s:Sg) (n:Nat):sentP s n z30=none:=by
 cases n with
 |zero=>rfl
 |succ n =>
  rw[sentP]
  rw[if_neg (z30_f0 _ (by decide)),if_neg (z30_f0 _ (by decide)),if_neg (z30_f0 _ (by decide)),if_neg (z30_f0 _ (by decide)),if_neg (z30_f0 _ (by decide)),if_neg (z30_f0 _ (by decide)),if_neg (z30_f0 _ (by decide)),if_neg (z30_f0 _ (by decide)),if_neg (z30_f0 _ (by decide)),if_neg (z30_f0 _ (by decide)),if_neg (z30_f0 _ (by decide))]
  rw[show kidOf z30 0=z30 from rfl,withP_z]
  rfl
theorem nodesL_kids {l:List S30} (h:1<l.length):nodes (l.getD 0 z30)+nodes (l.getD 1 z30)≤nodesL l:=by
 match l,h with
 |a::b::r,_=>simp only[nodesL];show nodes a+nodes b≤_;omega
theorem sentP_fuel (s:Sg):∀(n m:Nat) (t:S30),nodes t≤n→nodes t≤m→sentP s n t=sentP s m t
 |0,_,t,hn,_=>absurd hn (by have:=nodes_eq t;omega)
 |_,0,t,_,hm=>absurd hm (by have:=nodes_eq t;omega)
 |n+1,m+1,t,hn,hm=>by
  have hk:∀i,sentP s n (kidOf t i)=sentP s m (kidOf t i):=fun i=>by
   by_cases h:i<t.f2.length
   ·exact sentP_fuel s n m _ (nodes_kid hn h) (nodes_kid hm h)
   ·rw[kidOf_out h,sentP_z,sentP_z]
  have hw:∀o,withP (kidOf t 0) (kidOf t 1)=some o→sentP s n o=sentP s m o:=fun o ho=>by
   by_cases h:1<t.f2.length
   ·have h1:=with_nodes (kidOf t 1) (nodes (kidOf t 0)) (kidOf t 0) o (Nat.le_refl _) ho
    have h2:=nodesL_kids h
    have h3:=nodes_eq t
    unfold kidOf at h1
    exact sentP_fuel s n m o (by omega) (by omega)
   ·have h3:=nodes_eq t
    have h1:=with_nodes (kidOf t 1) (nodes (kidOf t 0)) (kidOf t 0) o (Nat.le_refl _) ho
    rw[kidOf_out h]at h1
    have hz:nodes z30=1:=rfl
    by_cases h0:0<t.f2.length
    ·have a:=nodes_kid hn h0
     have b:=nodes_kid hm h0
     exact sentP_fuel s n m o (by omega) (by omega)
    ·rw[kidOf_out h0,withP_z]at ho;cases ho
  rw[sentP,sentP,hk 0,hk 1]
  cases hq:withP (kidOf t 0) (kidOf t 1)with
  |none=>rfl
  |some o=>simp only[Option.bind_some,hw o hq]
open Go.Lib
def nums (l:List UInt8):List Int:=l.map fun b=>(b.toNat:Int)
theorem get0 (s:ByteArray) (b:UInt8) (r:List UInt8) (h:s.data.toList=b::r):s.get! 0=b∧0<s.size:=by
 obtain ⟨⟨l⟩⟩:=s
 simp only at h
 subst h
 exact ⟨rfl,by simp[ByteArray.size]⟩
theorem rest1 (s:ByteArray) (b:UInt8) (r:List UInt8) (h:s.data.toList=b::r):(s.extract 1 s.size).data.toList=r:=by
 obtain ⟨⟨l⟩⟩:=s
 simp only at h
 subst h
 simp[ByteArray.extract,ByteArray.copySlice,ByteArray.size]
theorem dec_lt (n b0 b1 b2 b3:Nat) (h:(decodeN n b0 b1 b2 b3).1<128):decodeN n b0 b1 b2 b3=(b0,1)∧b0<128:=by
 revert h
 unfold decodeN
 repeat' split
 all_goals (intro h;simp only at h ⊢;first | (exfalso;omega) | exact ⟨trivial,by omega⟩)
theorem dec_ascii (n b0 b1 b2 b3:Nat) (h:b0<128):decodeN n b0 b1 b2 b3=(b0,1):=by
 unfold decodeN
 rw[if_pos h]
theorem enc_big {r:Int} (h:128≤r):∃x∈encodeRuneZ r,128≤x:=by
 unfold encodeRuneZ
 rw[if_neg (by omega)]
 repeat' split
 all_goals exact ⟨_,List.mem_cons_self,by omega⟩
theorem esc_plain (T:PrintTabs) (r:Int) (h:∀x∈escRune T r,x<128∧x≠92):r<128∧r≠34∧r≠92∧(0≤r→escRune T r=[r]):=by
 have no:∀l:List Int,escRune T r=92::l→False:=fun l e=>(h 92 (by rw[e];exact List.mem_cons_self)).2 rfl
 unfold escRune at h no ⊢
 by_cases c0:r=34∨r=92
 ·rw[if_pos c0]at no;exact (no _ rfl).elim
 rw[if_neg c0]at h no ⊢
 by_cases c1:isPrintR T r=true
 ·rw[if_pos c1]at h ⊢
  have hr:r<128:=by
   by_cases hr:128≤r
   ·obtain ⟨x,hx,hx2⟩:=enc_big hr
    have:=(h x hx).1
    omega
   ·omega
  exact ⟨hr,by omega,by omega,fun h0=>encodeRuneZ_one h0 (by omega)⟩
 rw[if_neg c1]at no
 exfalso
 revert no
 repeat' split
 all_goals (intro no;exact no _ rfl)
theorem from_plain (T:PrintTabs):∀(l:List UInt8) (f:Nat) (s:ByteArray),s.data.toList=l→s.size≤f→(∀x∈quoteFrom T f s,x<128∧x≠92)→quoteFrom T f s=nums l∧∀b∈l,b.toNat≠34
 | [],f,s,e,hf,_=>by
  have:¬0<s.size:=by
   have:s.size=s.data.toList.length:=Array.length_toList.symm
   rw[e]at this
   have:s.size=0:=this
   omega
  exact ⟨by rw[quoteFrom_end T f s this];rfl,fun b hb=>by cases hb⟩
 |b::r,f,s,e,hf,h=>by
  obtain ⟨hg,h0⟩:=get0 s b r e
  rw[quoteFrom_step T f s h0 hf]at h ⊢
  have h1:∀x∈quoteStep T s,x<128∧x≠92:=fun x hx=>h x (List.mem_append_left _ hx)
  have hd:=decode_at s 0
  rw[hg]at hd
  have hs:(Utf8.decode s 0).1<128:=by
   unfold quoteStep at h1
   split at h1
   ·exact absurd rfl (h1 92 (by simp)).2
   ·have:=(esc_plain T _ h1).1;omega
  have hb:=dec_lt _ _ _ _ _ (hd▸hs)
  rw[hb.1]at hd
  have hst:quoteStep T s=[(b.toNat:Int)]∧b.toNat≠34:=by
   unfold quoteStep at h1 ⊢
   rw[hd]at h1 ⊢
   have hn:¬(True∧b.toNat=65533):=by omega
   simp only at h1 ⊢
   rw[if_neg hn]at h1 ⊢
   have q:=esc_plain T _ h1
   exact ⟨q.2.2.2 (by omega),by omega⟩
  rw[hd]at h ⊢
  have hr:=rest1 s b r e
  have ih:=from_plain T r (f-1) (s.extract 1 s.size) hr (by rw[size_rest];omega) (fun x hx=>h x (List.mem_append_right _ hx))
  refine ⟨?_,fun c hc=> ?_⟩
  ·show quoteStep T s++quoteFrom T (f-1) (s.extract 1 s.size)=_
   rw[hst.1,ih.1];rfl
  ·rcases List.mem_cons.1 hc with rfl | hc
   ·exact hst.2
   ·exact ih.2 c hc
theorem plain_from (T:PrintTabs):∀(l:List UInt8) (f:Nat) (s:ByteArray),s.data.toList=l→s.size≤f→(∀b∈l,32≤b.toNat∧b.toNat≤126∧b.toNat≠34∧b.toNat≠92)→quoteFrom T f s=nums l
 | [],f,s,e,hf,_=>by
  have:¬0<s.size:=by
   have:s.size=s.data.toList.length:=Array.length_toList.symm
   rw[e]at this
   have:s.size=0:=this
   omega
  rw[quoteFrom_end T f s this];rfl
 |b::r,f,s,e,hf,h=>by
  obtain ⟨hg,h0⟩:=get0 s b r e
  have hb:=h b (by simp)
  rw[quoteFrom_step T f s h0 hf]
  have hd:=decode_at s 0
  rw[hg,dec_ascii _ _ _ _ _ (by omega)]at hd
  have hst:quoteStep T s=[(b.toNat:Int)]:=by
   unfold quoteStep
   rw[hd]
   have hn:¬(True∧b.toNat=65533):=by omega
   simp only
   rw[if_neg hn]
   unfold escRune
   have e1:isPrintR T (b.toNat:Int)=true:=by
    unfold isPrintR isPrintLatin
    rw[if_pos (by omega)]
    simp
    omega
   rw[if_neg (by omega),if_pos e1]
   exact encodeRuneZ_one (by omega) (by omega)
  rw[hd]
  have hr:=rest1 s b r e
  have ih:=plain_from T r (f-1) (s.extract 1 s.size) hr (by rw[size_rest];omega) (fun x hx=>h x (List.mem_cons_of_mem _ hx))
  show quoteStep T s++quoteFrom T (f-1) (s.extract 1 s.size)=_
  rw[hst,ih];rfl
theorem nums_back (l:List UInt8):(nums l).map (fun n=>UInt8.ofNat n.toNat)=l:=by
 unfold nums
 rw[List.map_map]
 conv=>rhs;rw[←List.map_id l]
 refine List.map_congr_left fun b _=> ?_
 show UInt8.ofNat ((b.toNat:Int).toNat)=b
 rw[Int.toNat_natCast]
 exact UInt8.ofNat_toNat
theorem hex_byte (x:Nat) (h:x<16):0≤Lib.hexDigit x∧Lib.hexDigit x<256:=by unfold Lib.hexDigit;split<;>omega
theorem hexs_byte (r:Nat):∀n,∀x∈hexDigits r n,0≤x∧x<256
 |0,x,h=>by simp[hexDigits]at h
 |n+1,x,h=>by
  rw[hexDigits]at h
  rcases List.mem_cons.1 h with rfl | h
  ·exact hex_byte _ (Nat.mod_lt _ (by decide))
  ·exact hexs_byte r n x h
theorem esc_byte (T:PrintTabs) (r:Int):∀x∈escRune T r,0≤x∧x<256:=by
 intro x
 unfold escRune
 by_cases c0:r=34∨r=92
 ·rw[if_pos c0];intro h;simp at h;omega
 rw[if_neg c0]
 by_cases c1:isPrintR T r=true
 ·rw[if_pos c1];exact fun h=>encodeRuneZ_byte r x h
 rw[if_neg c1]
 by_cases d0:r=7
 ·rw[if_pos d0];intro h;simp at h;omega
 rw[if_neg d0]
 by_cases d1:r=8
 ·rw[if_pos d1];intro h;simp at h;omega
 rw[if_neg d1]
 by_cases d2:r=12
 ·rw[if_pos d2];intro h;simp at h;omega
 rw[if_neg d2]
 by_cases d3:r=10
 ·rw[if_pos d3];intro h;simp at h;omega
 rw[if_neg d3]
 by_cases d4:r=13
 ·rw[if_pos d4];intro h;simp at h;omega
 rw[if_neg d4]
 by_cases d5:r=9
 ·rw[if_pos d5];intro h;simp at h;omega
 rw[if_neg d5]
 by_cases d6:r=11
 ·rw[if_pos d6];intro h;simp at h;omega
 rw[if_neg d6]
 by_cases c9:r<32∨r=127
 ·rw[if_pos c9]
  intro h
  simp only[List.mem_cons,List.not_mem_nil,or_false]at h
  rcases h with rfl | rfl | rfl | rfl
  ·omega
  ·omega
  ·exact hex_byte _ (by omega)
  ·exact hex_byte _ (by omega)
 rw[if_neg c9]
 have hh:∀(a:Int) (n k:Nat),0≤a∧a<256→x∈92::a::hexDigits n k→0≤x∧x<256:=by
  intro a n k ha h
  rcases List.mem_cons.1 h with rfl | h
  ·omega
  ·rcases List.mem_cons.1 h with rfl | h
   ·exact ha
   ·exact hexs_byte _ _ _ h
 repeat' split
 all_goals exact hh _ _ _ (by omega)
theorem step_byte (T:PrintTabs) (s:ByteArray):∀x∈quoteStep T s,0≤x∧x<256:=by
 intro x h
 unfold quoteStep at h
 split at h
 ·have:=UInt8.toNat_lt (s.get! 0)
  simp only[List.mem_cons,List.not_mem_nil,or_false]at h
  rcases h with rfl | rfl | rfl | rfl
  ·omega
  ·omega
  ·exact hex_byte _ (by omega)
  ·exact hex_byte _ (by omega)
 ·exact esc_byte T _ x h
theorem from_byte (T:PrintTabs):∀(f:Nat) (s:ByteArray),∀x∈quoteFrom T f s,0≤x∧x<256
 |0,s,x,h=>by simp[quoteFrom]at h
 |f+1,s,x,h=>by
  unfold quoteFrom at h
  split at h
  ·rcases List.mem_append.1 h with h | h
   ·exact step_byte T s x h
   ·exact from_byte T f _ x h
  ·cases h
def okB (b:UInt8):Prop:=b.toNat<128∧b.toNat≠92
def Raw (T:PrintTabs) (s:ByteArray):Prop:=(quoteB T s).data.toList=34::(s.data.toList++[34])∧∀b∈s.data.toList,b.toNat≠34
theorem raw_of (T:PrintTabs) (s:ByteArray) (h:∀b∈(quoteB T s).data.toList,okB b):Raw T s:=by
 have h2:=from_plain T s.data.toList s.size s rfl (Nat.le_refl _) (fun x hx=>by
  have hb:=from_byte T _ _ x hx
  have:=h (UInt8.ofNat x.toNat) (by
   unfold quoteB
   rw[strOfNums_data,quoteZ]
   exact List.mem_map.2 ⟨x,List.mem_cons_of_mem _ (List.mem_append_left _ hx),rfl⟩)
  unfold okB at this
  rw[UInt8.toNat_ofNat_of_lt' (by show x.toNat<256;omega)]at this
  omega)
 refine ⟨?_,h2.2⟩
 unfold quoteB
 rw[strOfNums_data,quoteZ,h2.1,List.map_cons,List.map_append,nums_back]
 rfl
def PlainN (s:ByteArray):Prop:=∀b∈s.data.toList,32≤b.toNat∧b.toNat≤126∧b.toNat≠34∧b.toNat≠92
theorem quote_plain (T:PrintTabs) (s:ByteArray) (h:PlainN s):(quoteB T s).data.toList=34::(s.data.toList++[34]):=by
 unfold quoteB
 rw[strOfNums_data,quoteZ,plain_from T s.data.toList s.size s rfl (Nat.le_refl _) h,List.map_cons,List.map_append,nums_back]
 rfl
theorem ofNat_inj {a b:Nat} (ha:a<256) (hb:b<256) (h:UInt8.ofNat a=UInt8.ofNat b):a=b:=by
 have:=congrArg UInt8.toNat h
 rwa [UInt8.toNat_ofNat_of_lt' ha,UInt8.toNat_ofNat_of_lt' hb]at this
theorem dec_digit (u:Nat):∀b∈decDigits u,48≤b.toNat∧b.toNat≤57:=by
 induction u using Nat.strongRecOn with
 |_ u ih =>
  intro b hb
  rw[decDigits]at hb
  split at hb
  ·rename_i h
   obtain rfl:=List.mem_singleton.1 hb
   rw[UInt8.toNat_ofNat_of_lt' (by show 48+u<256;omega)]
   omega
  ·rename_i h
   rcases List.mem_append.1 hb with hb | hb
   ·exact ih (u / 10) (by omega) b hb
   ·obtain rfl:=List.mem_singleton.1 hb
    rw[UInt8.toNat_ofNat_of_lt' (by show 48+u % 10<256;omega)]
    omega
theorem dec_ne (u:Nat):decDigits u≠[]:=by
 rw[decDigits]
 split<;>simp
theorem dec_inj (u:Nat):∀v,decDigits u=decDigits v→u=v:=by
 induction u using Nat.strongRecOn with
 |_ u ih =>
  intro v h
  rw[decDigits,decDigits.eq_1 v]at h
  split at h
  ·rename_i hu
   split at h
   ·rename_i hv
    injection h with h
    have:=ofNat_inj (by omega) (by omega) h
    omega
   ·have:=congrArg List.length h
    rw[List.length_append]at this
    have h0:=dec_ne (v / 10)
    have:(decDigits (v / 10)).length=0:=by simp at this;simpa using this
    exact absurd (List.length_eq_zero_iff.1 this) h0
  ·rename_i hu
   split at h
   ·have:=congrArg List.length h
    rw[List.length_append]at this
    have h0:=dec_ne (u / 10)
    have:(decDigits (u / 10)).length=0:=by simp at this;simpa using this
    exact absurd (List.length_eq_zero_iff.1 this) h0
   ·rename_i hv
    obtain ⟨h1,h2⟩:=List.append_inj' h rfl
    injection h2 with h2
    have:=ofNat_inj (by omega) (by omega) h2
    have:=ih (u / 10) (by omega) (v / 10) h1
    omega
theorem itoa_list (v:Int) (h:0≤v):(itoaB v).data.toList=decDigits v.toNat:=by
 unfold itoaB itoa
 rw[if_neg (by omega)]
def valsL (vs:List Int):List UInt8:=vs.flatMap fun v=>(itoaB v).data.toList++[44]
def keyL (T:PrintTabs) (t:S30):List UInt8:=(keyP T t).data.toList
def keysL (T:PrintTabs) (ks:List S30):List UInt8:=ks.flatMap (keyL T)
theorem ba_list (a b:ByteArray):(a++b).data.toList=a.data.toList++b.data.toList:=by simp
theorem valsK_list:∀(vs:List Int) (s:ByteArray),(valsK s vs).data.toList=s.data.toList++valsL vs
 | [],s=>by simp[valsK,valsL]
 |v::r,s=>by
  rw[valsK,valsK_list r,ba_list,ba_list]
  simp[valsL]
theorem keysK_list (T:PrintTabs):∀(ks:List S30) (s:ByteArray),(keysK T s ks).data.toList=s.data.toList++keysL T ks
 | [],s=>by simp[keysK,keysL]
 |k::r,s=>by
  rw[keysK,keysK_list T r,ba_list]
  simp[keysL,keyL]
theorem keyL_eq (T:PrintTabs) (t:S30):keyL T t=(quoteB T t.f0).data.toList++(40::(valsL t.f1++(keysL T t.f2++[41]))):=by
 unfold keyL
 rw[keyP_eq,ba_list,keysK_list,valsK_list,ba_list]
 simp
mutual
/-- Every name stands as it is. -/
def RawT (T:PrintTabs):S30→Prop
 |⟨f,_,ks⟩=>Raw T f∧RawL T ks
def RawL (T:PrintTabs):List S30→Prop
 | []=>True
 |t::r=>RawT T t∧RawL T r
end
mutual
/-- Every name is plain. -/
def PlainT:S30→Prop
 |⟨f,_,ks⟩=>PlainN f∧PlainL ks
def PlainL:List S30→Prop
 | []=>True
 |t::r=>PlainT t∧PlainL r
end
mutual
theorem raw_key (T:PrintTabs):∀(t:S30),(∀b∈keyL T t,okB b)→RawT T t
 |⟨f,vs,ks⟩,h=>by
  rw[keyL_eq]at h
  exact ⟨raw_of T f (fun b hb=>h b (List.mem_append_left _ hb)),raw_keys T ks (fun b hb=>h b (List.mem_append_right _ (List.mem_cons_of_mem _ (List.mem_append_right _ (List.mem_append_left _ hb)))))⟩
theorem raw_keys (T:PrintTabs):∀(l:List S30),(∀b∈keysL T l,okB b)→RawL T l
 | [],_=>trivial
 |t::r,h=>by
  unfold keysL at h
  rw[List.flatMap_cons]at h
  exact ⟨raw_key T t (fun b hb=>h b (List.mem_append_left _ hb)),raw_keys T r (fun b hb=>h b (List.mem_append_right _ hb))⟩
end
theorem valsL_ok (vs:List Int) (h:∀v∈vs,0≤v∧v≤9223372036854775807):∀b∈valsL vs,okB b:=by
 intro b hb
 unfold valsL at hb
 obtain ⟨v,hv,hb⟩:=List.mem_flatMap.1 hb
 rw[itoa_list v (h v hv).1]at hb
 rcases List.mem_append.1 hb with hb | hb
 ·have:=dec_digit _ b hb
  unfold okB;omega
 ·obtain rfl:=List.mem_singleton.1 hb
  exact ⟨by decide,by decide⟩
mutual
theorem key_ok (T:PrintTabs):∀(t:S30),PlainT t→VOk t→∀b∈keyL T t,okB b
 |⟨f,vs,ks⟩,h,hv,b,hb=>by
  rw[PlainT]at h
  rw[VOk]at hv
  rw[keyL_eq]at hb
  rcases List.mem_append.1 hb with hb | hb
  ·have hb:b∈(quoteB T f).data.toList:=hb
   rw[quote_plain T f h.1]at hb
   rcases List.mem_cons.1 hb with rfl | hb
   ·exact ⟨by decide,by decide⟩
   ·rcases List.mem_append.1 hb with hb | hb
    ·have:=h.1 b hb
     unfold okB;omega
    ·obtain rfl:=List.mem_singleton.1 hb
     exact ⟨by decide,by decide⟩
  ·rcases List.mem_cons.1 hb with rfl | hb
   ·exact ⟨by decide,by decide⟩
   ·rcases List.mem_append.1 hb with hb | hb
    ·exact valsL_ok vs hv.1 b hb
    ·rcases List.mem_append.1 hb with hb | hb
     ·exact keys_ok T ks h.2 hv.2 b hb
     ·obtain rfl:=List.mem_singleton.1 hb
      exact ⟨by decide,by decide⟩
theorem keys_ok (T:PrintTabs):∀(l:List S30),PlainL l→VOkL l→∀b∈keysL T l,okB b
 | [],_,_,b,hb=>by simp[keysL]at hb
 |t::r,h,hv,b,hb=>by
  rw[PlainL]at h
  rw[VOkL]at hv
  unfold keysL at hb
  rw[List.flatMap_cons]at hb
  rcases List.mem_append.1 hb with hb | hb
  ·exact key_ok T t h.1 hv.1 b hb
  ·exact keys_ok T r h.2 hv.2 b hb
end
theorem upto_inj (c:UInt8):∀(a b x y:List UInt8),(∀e∈a,e.toNat≠c.toNat)→(∀e∈b,e.toNat≠c.toNat)→a++c::x=b++c::y→a=b∧x=y
 | [],[],x,y,_,_,h=>by injection h with _ h;exact ⟨rfl,h⟩
 | [],e::b,x,y,_,hb,h=>by
  injection h with h _
  exact absurd (congrArg UInt8.toNat h.symm) (hb e (by simp))
 |e::a,[],x,y,ha,_,h=>by
  injection h with h _
  exact absurd (congrArg UInt8.toNat h) (ha e (by simp))
 |e::a,g::b,x,y,ha,hb,h=>by
  injection h with h1 h2
  obtain ⟨h3,h4⟩:=upto_inj c a b x y (fun e he=>ha e (List.mem_cons_of_mem _ he)) (fun e he=>hb e (List.mem_cons_of_mem _ he)) h2
  exact ⟨by rw[h1,h3],h4⟩
def NoDig (x:List UInt8):Prop:=∃b r,x=b::r∧(b.toNat<48∨57<b.toNat)
theorem valsL_head (v:Int) (r:List Int) (x:List UInt8) (h:0≤v) (hn:NoDig (valsL (v::r)++x)):False:=by
 obtain ⟨b,q,e,hb⟩:=hn
 unfold valsL at e
 rw[List.flatMap_cons,itoa_list v h]at e
 have hd:=dec_digit v.toNat
 have hne:=dec_ne v.toNat
 cases hl:decDigits v.toNat with
 |nil=>exact hne hl
 |cons c l =>
  rw[hl]at e hd
  injection e with e _
  have:=hd c (by simp)
  rw[e]at this
  omega
theorem vals_inj:∀(vs ws:List Int) (x y:List UInt8),(∀v∈vs,0≤v∧v≤9223372036854775807)→(∀v∈ws,0≤v∧v≤9223372036854775807)→NoDig x→NoDig y→valsL vs++x=valsL ws++y→vs=ws∧x=y
 | [],[],x,y,_,_,_,_,h=>⟨rfl,h⟩
 | [],w::ws,x,y,_,hw,hx,_,h=>(valsL_head w ws y (hw w (by simp)).1 (h▸hx)).elim
 |v::vs,[],x,y,hv,_,_,hy,h=>(valsL_head v vs x (hv v (by simp)).1 (h▸hy)).elim
 |v::vs,w::ws,x,y,hv,hw,hx,hy,h=>by
  have e:∀(v:Int) (vs:List Int) (x:List UInt8),0≤v→valsL (v::vs)++x=decDigits v.toNat++44::(valsL vs++x):=fun v vs x h=>by
   unfold valsL
   rw[List.flatMap_cons,itoa_list v h]
   simp
  rw[e v vs x (hv v (by simp)).1,e w ws y (hw w (by simp)).1]at h
  have hd:∀(u:Nat),∀b∈decDigits u,b.toNat≠(44:UInt8).toNat:=fun u b hb=>by
   have:=dec_digit u b hb
   have e:(44:UInt8).toNat=44:=rfl
   omega
  obtain ⟨h1,h2⟩:=upto_inj 44 _ _ _ _ (hd _) (hd _) h
  have h3:=dec_inj _ _ h1
  obtain ⟨h4,h5⟩:=vals_inj vs ws x y (fun v h=>hv v (List.mem_cons_of_mem _ h)) (fun v h=>hw v (List.mem_cons_of_mem _ h)) hx hy h2
  have:=(hv v (by simp)).1
  have:=(hw w (by simp)).1
  exact ⟨by rw[h4,show v=w by omega],h5⟩
theorem keysL_head (T:PrintTabs) (l:List S30) (r:List UInt8) (hr:RawL T l):NoDig (keysL T l++41::r):=by
 cases l with
 |nil=>exact ⟨41,r,rfl,.inl (by decide)⟩
 |cons t l =>
  obtain ⟨f,vs,ks⟩:=t
  rw[RawL,RawT]at hr
  unfold keysL
  rw[List.flatMap_cons,keyL_eq,show S30.f0 ⟨f,vs,ks⟩=f from rfl,hr.1.1.1]
  exact ⟨34,_,rfl,.inl (by decide)⟩
mutual
theorem key_inj (T:PrintTabs):∀(t u:S30) (x y:List UInt8),RawT T t→RawT T u→VOk t→VOk u→keyL T t++x=keyL T u++y→t=u∧x=y
 |⟨f,vs,ks⟩,⟨g,ws,ls⟩,x,y,ht,hu,hv,hw,h=>by
  rw[RawT]at ht hu
  rw[VOk]at hv hw
  rw[keyL_eq,keyL_eq,show S30.f0 ⟨f,vs,ks⟩=f from rfl,show S30.f0 ⟨g,ws,ls⟩=g from rfl,show S30.f1 ⟨f,vs,ks⟩=vs from rfl,show S30.f1 ⟨g,ws,ls⟩=ws from rfl,show S30.f2 ⟨f,vs,ks⟩=ks from rfl,show S30.f2 ⟨g,ws,ls⟩=ls from rfl,ht.1.1,hu.1.1]at h
  simp only[List.cons_append,List.append_assoc,List.nil_append]at h
  injection h with _ h
  obtain ⟨h1,h2⟩:=upto_inj 34 _ _ _ _ (fun b hb=>ht.1.2 b hb) (fun b hb=>hu.1.2 b hb) h
  injection h2 with _ h2
  obtain ⟨h3,h4⟩:=vals_inj vs ws _ _ hv.1 hw.1 (keysL_head T ks x ht.2) (keysL_head T ls y hu.2) h2
  obtain ⟨h5,h6⟩:=keys_inj T ks ls x y ht.2 hu.2 hv.2 hw.2 h4
  exact ⟨by rw[ba_ext h1,h3,h5],h6⟩
theorem keys_inj (T:PrintTabs):∀(ks ls:List S30) (x y:List UInt8),RawL T ks→RawL T ls→VOkL ks→VOkL ls→keysL T ks++41::x=keysL T ls++41::y→ks=ls∧x=y
 | [],[],x,y,_,_,_,_,h=>by injection h with _ h;exact ⟨rfl,h⟩
 | [],u::ls,x,y,_,hu,_,_,h=>by
  exfalso
  obtain ⟨g,ws,ms⟩:=u
  rw[RawL,RawT]at hu
  unfold keysL at h
  rw[List.flatMap_cons,keyL_eq,show S30.f0 ⟨g,ws,ms⟩=g from rfl,hu.1.1.1]at h
  injection h with h _
  exact absurd h (by decide)
 |t::ks,[],x,y,ht,_,_,_,h=>by
  exfalso
  obtain ⟨g,ws,ms⟩:=t
  rw[RawL,RawT]at ht
  unfold keysL at h
  rw[List.flatMap_cons,keyL_eq,show S30.f0 ⟨g,ws,ms⟩=g from rfl,ht.1.1.1]at h
  injection h with h _
  exact absurd h (by decide)
 |t::ks,u::ls,x,y,ht,hu,hv,hw,h=>by
  rw[RawL]at ht hu
  rw[VOkL]at hv hw
  unfold keysL at h
  rw[List.flatMap_cons,List.flatMap_cons,List.append_assoc,List.append_assoc]at h
  obtain ⟨h1,h2⟩:=key_inj T t u _ _ ht.1 hu.1 hv.1 hw.1 h
  obtain ⟨h3,h4⟩:=keys_inj T ks ls x y ht.2 hu.2 hv.2 hw.2 h2
  exact ⟨by rw[h1,h3],h4⟩
end
theorem keyP_inj (T:PrintTabs) {t u:S30} (hu:PlainT u) (hv:VOk t) (hw:VOk u) (h:keyP T t=keyP T u):t=u:=by
 have hk:keyL T t=keyL T u:=by unfold keyL;rw[h]
 have ho:=key_ok T u hu hw
 exact (key_inj T t u [] [] (raw_key T t (by rw[hk];exact ho)) (raw_key T u ho) hv hw (by rw[hk])).1
theorem PlainT.eq (t:S30):PlainT t↔PlainN t.f0∧PlainL t.f2:=by cases t;simp[PlainT]
theorem plainL_of {l:List S30} (h:∀i,i<l.length→PlainT (l.getD i z30)):PlainL l:=by
 induction l with
 |nil=>simp[PlainL]
 |cons a r ih =>
  rw[PlainL]
  exact ⟨h 0 (by simp),ih (fun i hi=>h (i+1) (by simpa using hi))⟩
theorem plain_1 {t:S30} (h0:PlainN t.f0) (hl:t.f2.length=1) (h:PlainT (kidOf t 0)):PlainT t :=
 (PlainT.eq t).2 ⟨h0,plainL_of (fun i hi=>by
  obtain rfl:i=0:=by omega
  exact h)⟩
theorem plain_2 {t:S30} (h0:PlainN t.f0) (hl:t.f2.length=2) (h:PlainT (kidOf t 0)) (h1:PlainT (kidOf t 1)):PlainT t :=
 (PlainT.eq t).2 ⟨h0,plainL_of (fun i hi=>by
  rcases (show i=0∨i=1 by omega)with rfl | rfl
  ·exact h
  ·exact h1)⟩
theorem plain_3 {t:S30} (h0:PlainN t.f0) (hl:t.f2.length=3) (h:PlainT (kidOf t 0)) (h1:PlainT (kidOf t 1)) (h2:PlainT (kidOf t 2)):PlainT t :=
 (PlainT.eq t).2 ⟨h0,plainL_of (fun i hi=>by
  rcases (show i=0∨i=1∨i=2 by omega)with rfl | rfl | rfl
  ·exact h
  ·exact h1
  ·exact h2)⟩
theorem leaf_plain {t:S30} {cat:ByteArray} (hc:isCat cat=false) (h:formedP structL t cat=true) (hn:PlainN t.f0):PlainT t:=by
 rw[formedP_leaf hc,Bool.and_eq_true]at h
 have h1:t.f2.length=0:=of_decide_eq_true h.1
 exact (PlainT.eq t).2 ⟨hn,plainL_of (fun i hi=>by omega)⟩
theorem names_plain:structL.all (fun g=>g.f0.data.toList.all fun b=>decide (32≤b.toNat) && decide (b.toNat≤126) && decide (b.toNat≠34) && decide (b.toNat≠92))=true:=by decide +kernel
theorem head_plain {t:S30} {cat:ByteArray} (hc:isCat cat=true) (h:formedP structL t cat=true):PlainN t.f0:=by
 obtain ⟨g,hm,h0,_⟩:=formed_open hc h
 have hq:=List.all_eq_true.1 names_plain g hm
 rw[h0]at hq
 intro b hb
 have:=List.all_eq_true.1 hq b hb
 simp only[Bool.and_eq_true,decide_eq_true_eq]at this
 exact ⟨this.1.1.1,this.1.1.2,this.1.2,this.2⟩
structure SigN (s:Sg):Prop where
 p:∀p∈s.ps,PlainN p.f0
 c:∀c∈s.cs,PlainN c.f0
theorem toList_eq {x y:ByteArray} (h:x.toList=y.toList):x=y:=by
 rw[Go.ByteArray.toList_eq,Go.ByteArray.toList_eq]at h
 exact ba_ext h
theorem pred_plain {s:Sg} (hs:SigN s) {x:ByteArray} {p:S107} (h:predP s.ps x=some p):PlainN x:=by
 have hm:=predP_mem h
 unfold predP at h
 have he:=List.find?_some h
 have:=toList_eq (eq_of_beq he)
 rw[←this]
 exact hs.p p hm
theorem con_plain {s:Sg} (hs:SigN s) {x b:ByteArray} (h:sortOfP s.cs x=some b):PlainN x:=by
 unfold sortOfP at h
 cases hf:s.cs.find? fun c=>c.f0.toList == x.toList with
 |none=>rw[hf]at h;cases h
 |some c =>
  have he:=List.find?_some hf
  have:=toList_eq (eq_of_beq he)
  rw[←this]
  exact hs.c c (List.mem_of_find?_eq_some hf)
theorem bind_some' {α β:Type} {a:Option α} {f:α→Option β} {b:β} (h:a.bind f=some b):∃x,a=some x∧f x=some b:=by
 cases a with
 |none=>cases h
 |some x=>exact ⟨x,rfl,h⟩
theorem map_some' {α β:Type} {a:Option α} {f:α→β} {b:β} (h:a.map f=some b):∃x,a=some x∧f x=b:=by
 cases a with
 |none=>cases h
 |some x=>exact ⟨x,rfl,by injection h⟩
theorem isF_no {t:S30} {n:ByteArray} {l:List UInt8} (h:t.f0=n) (hn:(n.toList == l)=false):¬isF t l=true:=by
 unfold isF;rw[h,hn];exact fun h=>Bool.noConfusion h
theorem isF_yes {t:S30} {n:ByteArray} {l:List UInt8} (h:t.f0=n) (hn:(n.toList == l)=true):isF t l=true:=by
 unfold isF;rw[h,hn]
def NounPl (s:Sg) (n:Nat):Prop:=∀t,formedP structL t cCN=true→resP t=true→∀f,nounP s n t=some f→∀d x m,f d x=some m→PlainT t
def VerbPl (s:Sg) (n:Nat):Prop:=∀t,formedP structL t cVP=true→resP t=true→∀f,verbP s n t=some f→∀d x m,f d x=some m→PlainT t
def ApplyPl (s:Sg) (n:Nat):Prop:=∀t,formedP structL t cNP=true→resP t=true→∀d f m,applyP s n t d f=some m→PlainT t∧∃d' x' m',f d' x' =some m'
theorem lf_N:isCat cN=false:=by decide +kernel
theorem lf_A:isCat cA=false:=by decide +kernel
theorem lf_V1:isCat cV1=false:=by decide +kernel
theorem lf_V2:isCat cV2=false:=by decide +kernel
theorem lf_V3:isCat cV3=false:=by decide +kernel
theorem lf_VQ:isCat cVQ=false:=by decide +kernel
theorem lf_PN:isCat cPN=false:=by decide +kernel
theorem quant_some {ss:List ByteArray} {op:Int} {sort:ByteArray} {d:Int} {f:Prd} {m:S70} (h:quantP ss op sort d f=some m):∃d' x' m',f d' x' =some m' :=by
 unfold quantP at h
 obtain ⟨a,ha,_⟩:=map_some' h
 exact ⟨_,_,a,ha⟩
theorem join_some {c v:Prd} {d:Int} {x:Tm} {m:S70} (h:joinP c v d x=some m):(∃a,c d x=some a)∧∃b,v d x=some b:=by
 unfold joinP at h
 obtain ⟨a,ha,h⟩:=bind_some' h
 obtain ⟨b,hb,h⟩:=bind_some' h
 exact ⟨⟨a,ha⟩,b,hb⟩
theorem impl_some {c v:Prd} {d:Int} {x:Tm} {m:S70} (h:implP c v d x=some m):(∃a,c d x=some a)∧∃b,v d x=some b:=by
 unfold implP at h
 obtain ⟨a,ha,h⟩:=bind_some' h
 obtain ⟨b,hb,h⟩:=bind_some' h
 exact ⟨⟨a,ha⟩,b,hb⟩
theorem none_some {c v:Prd} {d:Int} {x:Tm} {m:S70} (h:noneP c v d x=some m):(∃a,c d x=some a)∧∃b,v d x=some b:=by
 unfold noneP at h
 obtain ⟨a,ha,h⟩:=bind_some' h
 obtain ⟨b,hb,h⟩:=bind_some' h
 exact ⟨⟨a,ha⟩,b,hb⟩
theorem exc_some {c e v:Prd} {d:Int} {x:Tm} {m:S70} (h:exceptP c e v d x=some m):(∃a,c d x=some a)∧(∃a,e d x=some a)∧∃b,v d x=some b:=by
 unfold exceptP at h
 obtain ⟨a,ha,h⟩:=bind_some' h
 obtain ⟨a2,ha2,h⟩:=bind_some' h
 obtain ⟨b,hb,h⟩:=bind_some' h
 exact ⟨⟨a,ha⟩,⟨a2,ha2⟩,b,hb⟩
theorem mean_plain {s:Sg} (hs:SigN s):∀n,NounPl s n∧VerbPl s n∧ApplyPl s n
 |0=>⟨fun t _ _ f h=>(by rw[nounP]at h;cases h),fun t _ _ f h=>(by rw[verbP]at h;cases h),fun t _ _ d f m h=>(by rw[applyP]at h;cases h)⟩
 |n+1=>by
  obtain ⟨hN,hV,hA⟩:=mean_plain hs n
  refine ⟨fun t hf hr f h d x m hm=> ?_,fun t hf hr f h d x m hm=> ?_,fun t hf hr d f m h=> ?_⟩
  ·have h0:=head_plain isCat_CN hf
   obtain ⟨_,hsh⟩:=shape_CN hf
   rw[nounP]at h
   rcases hsh with ⟨e0,hl,_,hk⟩ | ⟨e0,hl,_,hk,hk1⟩ | ⟨e0,hl,_,hk,hk1⟩
   ·rw[if_pos (isF_yes e0 (by decide +kernel))]at h
    obtain ⟨p,hp,_⟩:=map_some' h
    exact plain_1 h0 hl (leaf_plain lf_N hk (pred_plain hs hp))
   ·rw[if_neg (isF_no e0 (by decide +kernel)),if_pos (isF_yes e0 (by decide +kernel))]at h
    obtain ⟨p,hp,h⟩:=bind_some' h
    obtain ⟨c,hc,rfl⟩:=map_some' h
    obtain ⟨m1,_,hm⟩:=bind_some' hm
    obtain ⟨m2,hm2,_⟩:=bind_some' hm
    exact plain_2 h0 hl (leaf_plain lf_A hk (pred_plain hs hp)) (hN _ hk1 (res_kid hr (by omega)) c hc d x m2 hm2)
   ·rw[if_neg (isF_no e0 (by decide +kernel)),if_neg (isF_no e0 (by decide +kernel))]at h
    obtain ⟨c,hc,h⟩:=bind_some' h
    obtain ⟨v,hv,rfl⟩:=map_some' h
    obtain ⟨⟨m1,h1⟩,m2,h2⟩:=join_some hm
    exact plain_2 h0 hl (hN _ hk (res_kid hr (by omega)) c hc d x m1 h1) (hV _ hk1 (res_kid hr (by omega)) v hv d x m2 h2)
  ·have h0:=head_plain isCat_VP hf
   obtain ⟨_,hsh⟩:=shape_VP hf
   rw[verbP]at h
   rcases hsh with ⟨e0,hl,_,hk⟩ | ⟨e0,hl,_,hk,hk1⟩ | ⟨e0,hl,_,hk,hk1,hk2⟩ | ⟨e0,hl,_,hk⟩ | ⟨e0,hl,_,hk,hk1⟩
   ·rw[if_neg (isF_no e0 (by decide +kernel))]at h
    obtain ⟨p,hp,_⟩:=map_some' h
    exact plain_1 h0 hl (leaf_plain lf_V1 hk (pred_plain hs hp))
   ·rw[if_neg (isF_no e0 (by decide +kernel))]at h
    obtain ⟨p,hp,rfl⟩:=map_some' h
    rw[if_neg (isF_no e0 (by decide +kernel)),if_neg (isF_no e0 (by decide +kernel)),if_pos (isF_yes e0 (by decide +kernel))]at hm
    exact plain_2 h0 hl (leaf_plain lf_V2 hk (pred_plain hs hp)) (hA _ hk1 (res_kid hr (by omega)) _ _ _ hm).1
   ·rw[if_neg (isF_no e0 (by decide +kernel))]at h
    obtain ⟨p,hp,rfl⟩:=map_some' h
    rw[if_neg (isF_no e0 (by decide +kernel)),if_neg (isF_no e0 (by decide +kernel)),if_neg (isF_no e0 (by decide +kernel))]at hm
    obtain ⟨g1,d1,x1,m1,g2⟩:=hA _ hk1 (res_kid hr (by omega)) _ _ _ hm
    exact plain_3 h0 hl (leaf_plain lf_V3 hk (pred_plain hs hp)) g1 (hA _ hk2 (res_kid hr (by omega)) _ _ _ g2).1
   ·rw[if_neg (isF_no e0 (by decide +kernel))]at h
    obtain ⟨p,hp,_⟩:=map_some' h
    exact plain_1 h0 hl (leaf_plain lf_VQ hk (pred_plain hs hp))
   ·rw[if_pos (isF_yes e0 (by decide +kernel))]at h
    obtain ⟨c,hc,h⟩:=bind_some' h
    obtain ⟨v,hv,rfl⟩:=map_some' h
    obtain ⟨⟨m1,h1⟩,m2,h2⟩:=join_some hm
    exact plain_2 h0 hl (hV _ hk (res_kid hr (by omega)) c hc d x m1 h1) (hV _ hk1 (res_kid hr (by omega)) v hv d x m2 h2)
  ·have h0:=head_plain isCat_NP hf
   obtain ⟨r1,r2⟩:=res_not hr
   obtain ⟨_,hsh⟩:=shape_NP hf
   rw[applyP]at h
   rcases hsh with ⟨e0,hl,_,hk⟩ | ⟨e0,hl,_,hk⟩ | ⟨e0,hl,_,hk⟩ | ⟨e0,hl,_,hk⟩ | ⟨e0,hl,_,hk,hk1⟩ | ⟨e0,hl,_,hk,hk1⟩ | ⟨e0,_⟩ | ⟨e0,_⟩
   ·rw[if_pos (isF_yes e0 (by decide +kernel))]at h
    obtain ⟨sort,hp,h⟩:=bind_some' h
    exact ⟨plain_1 h0 hl (leaf_plain lf_PN hk (con_plain hs hp)),_,_,_,h⟩
   ·rw[if_neg (isF_no e0 (by decide +kernel)),if_neg (isF_no e0 (by decide +kernel))]at h
    obtain ⟨c,hc,h⟩:=bind_some' h
    obtain ⟨sort,_,h⟩:=bind_some' h
    rw[if_neg (isF_no e0 (by decide +kernel)),if_neg (isF_no e0 (by decide +kernel)),if_neg (isF_no e0 (by decide +kernel))]at h
    obtain ⟨d',x',m',h⟩:=quant_some h
    obtain ⟨⟨m1,h1⟩,m2,h2⟩:=impl_some h
    exact ⟨plain_1 h0 hl (hN _ hk (res_kid hr (by omega)) c hc _ _ _ h1),_,_,_,h2⟩
   ·rw[if_neg (isF_no e0 (by decide +kernel)),if_neg (isF_no e0 (by decide +kernel))]at h
    obtain ⟨c,hc,h⟩:=bind_some' h
    obtain ⟨sort,_,h⟩:=bind_some' h
    rw[if_pos (isF_yes e0 (by decide +kernel))]at h
    obtain ⟨d',x',m',h⟩:=quant_some h
    obtain ⟨⟨m1,h1⟩,m2,h2⟩:=join_some h
    exact ⟨plain_1 h0 hl (hN _ hk (res_kid hr (by omega)) c hc _ _ _ h1),_,_,_,h2⟩
   ·rw[if_neg (isF_no e0 (by decide +kernel)),if_neg (isF_no e0 (by decide +kernel))]at h
    obtain ⟨c,hc,h⟩:=bind_some' h
    obtain ⟨sort,_,h⟩:=bind_some' h
    rw[if_neg (isF_no e0 (by decide +kernel)),if_pos (isF_yes e0 (by decide +kernel))]at h
    obtain ⟨d',x',m',h⟩:=quant_some h
    obtain ⟨⟨m1,h1⟩,m2,h2⟩:=none_some h
    exact ⟨plain_1 h0 hl (hN _ hk (res_kid hr (by omega)) c hc _ _ _ h1),_,_,_,h2⟩
   ·rw[if_neg (isF_no e0 (by decide +kernel)),if_neg (isF_no e0 (by decide +kernel))]at h
    obtain ⟨c,hc,h⟩:=bind_some' h
    obtain ⟨sort,_,h⟩:=bind_some' h
    rw[if_neg (isF_no e0 (by decide +kernel)),if_neg (isF_no e0 (by decide +kernel)),if_pos (isF_yes e0 (by decide +kernel))]at h
    obtain ⟨e,he,h⟩:=bind_some' h
    obtain ⟨d',x',m',h⟩:=quant_some h
    obtain ⟨⟨m1,h1⟩,⟨m2,h2⟩,m3,h3⟩:=exc_some h
    exact ⟨plain_2 h0 hl (hN _ hk (res_kid hr (by omega)) c hc _ _ _ h1) (hN _ hk1 (res_kid hr (by omega)) e he _ _ _ h2),_,_,_,h3⟩
   ·rw[if_neg (isF_no e0 (by decide +kernel)),if_pos (isF_yes e0 (by decide +kernel))]at h
    obtain ⟨a,ha,h⟩:=bind_some' h
    obtain ⟨b,hb,h⟩:=bind_some' h
    obtain ⟨q1,q2⟩:=hA _ hk (res_kid hr (by omega)) _ _ _ ha
    exact ⟨plain_2 h0 hl q1 (hA _ hk1 (res_kid hr (by omega)) _ _ _ hb).1,q2⟩
   ·exact absurd e0 r1
   ·exact absurd e0 r2
theorem modal_plain {s:Sg} (hs:SigN s) {op:Int} {neg:Bool} {t:S30} {m:S70} (h:modalP s op neg t=some m) (h0:PlainN t.f0) (hl:t.f2.length=2) (hr:resP t=true) (hk:formedP structL (kidOf t 0) cNP=true) (hk1:formedP structL (kidOf t 1) cVP=true):PlainT t:=by
 unfold modalP at h
 obtain ⟨v,hv,h⟩:=bind_some' h
 obtain ⟨h1,d,x,m',h2⟩:=(mean_plain hs _).2.2 _ hk (res_kid hr (by omega)) _ _ _ h
 unfold modP at h2
 obtain ⟨m2,h2,_⟩:=map_some' h2
 exact plain_2 h0 hl h1 ((mean_plain hs _).2.1 _ hk1 (res_kid hr (by omega)) v hv _ _ _ h2)
theorem modal_names {f:ByteArray} (h:modalF f=true):f=nAssert∨f=nMust∨f=nMustNot∨f=nMay:=by
 unfold modalF at h
 simp only[Bool.or_eq_true,beq_iff_eq]at h
 rcases h with ((h | h) | h) | h
 ·exact .inl (toList_eq (h.trans (by decide +kernel)))
 ·exact .inr (.inl (toList_eq (h.trans (by decide +kernel))))
 ·exact .inr (.inr (.inl (toList_eq (h.trans (by decide +kernel)))))
 ·exact .inr (.inr (.inr (toList_eq (h.trans (by decide +kernel)))))
theorem pass_names {f:ByteArray} (h:passF f=true):f=nDuring∨f=nSince∨f=nUntil∨f=nPlease∨f=nAlso:=by
 unfold passF at h
 simp only[Bool.or_eq_true,beq_iff_eq]at h
 rcases h with (((h | h) | h) | h) | h
 ·exact .inl (toList_eq (h.trans (by decide +kernel)))
 ·exact .inr (.inl (toList_eq (h.trans (by decide +kernel))))
 ·exact .inr (.inr (.inl (toList_eq (h.trans (by decide +kernel)))))
 ·exact .inr (.inr (.inr (.inl (toList_eq (h.trans (by decide +kernel))))))
 ·exact .inr (.inr (.inr (.inr (toList_eq (h.trans (by decide +kernel))))))
theorem fnOf_args {f:ByteArray} {a:ByteArray} (h:(structL.all fun g=> !decide (g.f0=f) || decide (g.f1.headD ByteArray.empty=a))=true) {g:S160} (hg:g∈structL) (h0:g.f0=f):g.f1.headD ByteArray.empty=a:=by
 have:=List.all_eq_true.1 h g hg
 simpa[h0]using this
theorem modal_args {f:ByteArray} (h:modalF f=true) {g:S160} (hg:g∈structL) (h0:g.f0=f):g.f1.headD ByteArray.empty=cNP:=by
 rcases modal_names h with rfl | rfl | rfl | rfl
 all_goals exact fnOf_args (by decide +kernel) hg h0
theorem pass_args {f:ByteArray} (h:passF f=true) {g:S160} (hg:g∈structL) (h0:g.f0=f):g.f1.headD ByteArray.empty=cS:=by
 rcases pass_names h with rfl | rfl | rfl | rfl | rfl
 all_goals exact fnOf_args (by decide +kernel) hg h0
theorem formed_swap {t x:S30} {a:ByteArray} (h:formedP structL t cS=true) (hl:0<t.f2.length) (ha:∀g∈structL,g.f0=t.f0→g.f1.headD ByteArray.empty=a) :
  formedP structL (kidOf t 0) a=true∧(formedP structL x a=true→formedP structL ⟨t.f0,t.f1,x::t.f2.drop 1⟩ cS=true):=by
 obtain ⟨f,vs,ks⟩:=t
 match ks,hl with
 |k::r,_ =>
  rw[formedP_cat isCat_S]at h
  cases hf:fnOf structL f with
  |none=>rw[show S30.f0 ⟨f,vs,k::r⟩=f from rfl,hf]at h;cases h
  |some g =>
   obtain ⟨m1,m2⟩:=fnOf_some hf
   have hg:=ha g m1 m2
   rw[show S30.f0 ⟨f,vs,k::r⟩=f from rfl,hf]at h
   simp only[Bool.and_eq_true,formedL,hg]at h
   obtain ⟨h1,h2,h3,h4⟩:=h
   refine ⟨h3,fun hx=> ?_⟩
   rw[formedP_cat isCat_S,show S30.f0 ⟨f,vs,x::r⟩=f from rfl]
   show (match fnOf structL f with | none=>false | some g=>headFits g cS vs.length (x::r).length && (vs.all valOk && formedL structL (x::r) g.f1))=true
   rw[hf]
   simp only[Bool.and_eq_true,formedL,hg]
   exact ⟨h1,h2,hx,h4⟩
theorem with_formed {np:S30} (hn:formedP structL np cNP=true):∀(n:Nat) (t x:S30),nodes t≤n→formedP structL t cS=true→withP t np=some x→formedP structL x cS=true
 |0,t,x,h,_,_=>absurd h (by have:=nodes_eq t;omega)
 |n+1,t,x,h,hf,hx=>by
  by_cases hl:t.f2.length=0
  ·rw[withP_none hl]at hx;cases hx
  ·rw[withP_some (by omega)]at hx
   by_cases h1:modalF t.f0=true
   ·rw[if_pos h1]at hx
    injection hx with hx
    subst hx
    exact (formed_swap hf (by omega) (fun g hg h0=>modal_args h1 hg h0)).2 hn
   ·rw[if_neg h1]at hx
    by_cases h2:passF t.f0=true
    ·rw[if_pos h2]at hx
     obtain ⟨y,hy,rfl⟩:=map_some' hx
     have hq:=formed_swap (x:=y) hf (by omega) (fun g hg h0=>pass_args h2 hg h0)
     exact hq.2 (with_formed hn n _ y (nodes_kid h (by omega)) hq.1 hy)
    ·rw[if_neg h2]at hx;cases hx
theorem resL_drop {l:List S30} (h:resL l=true):resL (l.drop 1)=true:=by
 cases l with
 |nil=>exact h
 |cons a r=>rw[resL,Bool.and_eq_true]at h;exact h.2
theorem with_res {np:S30} (hn:resP np=true):∀(n:Nat) (t x:S30),nodes t≤n→resP t=true→withP t np=some x→resP x=true
 |0,t,x,h,_,_=>absurd h (by have:=nodes_eq t;omega)
 |n+1,t,x,h,hf,hx=>by
  by_cases hl:t.f2.length=0
  ·rw[withP_none hl]at hx;cases hx
  ·rw[withP_some (by omega)]at hx
   have hr:=hf
   rw[resP_eq,Bool.and_eq_true]at hr
   by_cases h1:modalF t.f0=true
   ·rw[if_pos h1]at hx
    injection hx with hx
    subst hx
    rw[resP,resL,hr.1,hn,resL_drop hr.2]
    rfl
   ·rw[if_neg h1]at hx
    by_cases h2:passF t.f0=true
    ·rw[if_pos h2]at hx
     obtain ⟨y,hy,rfl⟩:=map_some' hx
     have:=with_res hn n _ y (nodes_kid h (by omega)) (res_kid hf (by omega)) hy
     rw[resP,resL,hr.1,this,resL_drop hr.2]
     rfl
    ·rw[if_neg h2]at hx;cases hx
theorem SmL_drop {l:List S30} (h:SmL l):SmL (l.drop 1):=by
 cases l with
 |nil=>exact h
 |cons a r=>simp only[SmL]at h;exact h.2
theorem kid_mem {t:S30} {i:Nat} (h:i<t.f2.length):kidOf t i∈t.f2:=by
 unfold kidOf;rw[List.getD_eq_getElem?_getD,List.getElem?_eq_getElem h];exact List.getElem_mem _
theorem Sm.kid {t:S30} (h:Sm t) {i:Nat} (hi:i<t.f2.length):Sm (kidOf t i):=SmL.mem ((Sm.eq t).1 h).2.2.2 (kid_mem hi)
theorem with_Sm {np:S30} (hn:Sm np):∀(n:Nat) (t x:S30),nodes t≤n→Sm t→withP t np=some x→Sm x
 |0,t,x,h,_,_=>absurd h (by have:=nodes_eq t;omega)
 |n+1,t,x,h,hf,hx=>by
  by_cases hl:t.f2.length=0
  ·rw[withP_none hl]at hx;cases hx
  ·rw[withP_some (by omega)]at hx
   obtain ⟨s1,s2,s3,s4⟩:=(Sm.eq t).1 hf
   have hd:=List.length_drop (i:=1) (l:=t.f2)
   have e:∀y:S30,(y::t.f2.drop 1).length=t.f2.length:=fun y=>by rw[List.length_cons,hd];omega
   by_cases h1:modalF t.f0=true
   ·rw[if_pos h1]at hx
    injection hx with hx
    subst hx
    rw[Sm,SmL,e]
    exact ⟨s1,s2,s3,hn,SmL_drop s4⟩
   ·rw[if_neg h1]at hx
    by_cases h2:passF t.f0=true
    ·rw[if_pos h2]at hx
     obtain ⟨y,hy,rfl⟩:=map_some' hx
     rw[Sm,SmL,e]
     exact ⟨s1,s2,s3,with_Sm hn n _ y (nodes_kid h (by omega)) (hf.kid (by omega)) hy,SmL_drop s4⟩
    ·rw[if_neg h2]at hx;cases hx
theorem with_plain {np:S30}:∀(n:Nat) (t x:S30),nodes t≤n→withP t np=some x→PlainT x→PlainT np
 |0,t,x,h,_,_=>absurd h (by have:=nodes_eq t;omega)
 |n+1,t,x,h,hx,hp=>by
  by_cases hl:t.f2.length=0
  ·rw[withP_none hl]at hx;cases hx
  ·rw[withP_some (by omega)]at hx
   by_cases h1:modalF t.f0=true
   ·rw[if_pos h1]at hx
    injection hx with hx
    subst hx
    rw[PlainT,PlainL]at hp
    exact hp.2.1
   ·rw[if_neg h1]at hx
    by_cases h2:passF t.f0=true
    ·rw[if_pos h2]at hx
     obtain ⟨y,hy,rfl⟩:=map_some' hx
     rw[PlainT,PlainL]at hp
     exact with_plain n _ y (nodes_kid h (by omega)) hy hp.2.1
    ·rw[if_neg h2]at hx;cases hx
theorem sent_plain {s:Sg} (hs:SigN s):∀(n:Nat) (t:S30) (m:S70),formedP structL t cS=true→resP t=true→sentP s n t=some m→PlainT t
 |0,t,m,_,_,h=>by rw[sentP]at h;cases h
 |n+1,t,m,hf,hr,h=>by
  have h0:=head_plain isCat_S hf
  obtain ⟨_,hsh⟩:=shape_S hf
  rw[sentP]at h
  rcases hsh with ⟨e0,hl,_,hk,hk1⟩ | ⟨e0,hl,_,hk,hk1⟩ | ⟨e0,hl,_,hk,hk1⟩ | ⟨e0,hl,_,hk,hk1⟩ | ⟨e0,hl,_,hk⟩ | ⟨e0,hl,_,hk⟩ | ⟨e0,hl,_,hk⟩ | ⟨e0,hl,_,hk,hk1⟩ | ⟨e0,hl,_,hk,hk1⟩ | ⟨e0,hl,_,hk,hk1⟩ | ⟨e0,hl,_,hk,hk1⟩ | ⟨e0,hl,_,hk⟩
  ·rw[if_pos e0]at h
   exact modal_plain hs h h0 hl hr hk hk1
  ·rw[if_neg (by rw[e0];decide +kernel),if_pos e0]at h
   exact modal_plain hs h h0 hl hr hk hk1
  ·rw[if_neg (by rw[e0];decide +kernel),if_neg (by rw[e0];decide +kernel),if_pos e0]at h
   exact modal_plain hs h h0 hl hr hk hk1
  ·rw[if_neg (by rw[e0];decide +kernel),if_neg (by rw[e0];decide +kernel),if_neg (by rw[e0];decide +kernel),if_pos e0]at h
   exact modal_plain hs h h0 hl hr hk hk1
  ·rw[if_neg (by rw[e0];decide +kernel),if_neg (by rw[e0];decide +kernel),if_neg (by rw[e0];decide +kernel),if_neg (by rw[e0];decide +kernel),if_pos e0]at h
   obtain ⟨a,ha,_⟩:=map_some' h
   exact plain_1 h0 hl (sent_plain hs n _ a hk (res_kid hr (by omega)) ha)
  ·rw[if_neg (by rw[e0];decide +kernel),if_neg (by rw[e0];decide +kernel),if_neg (by rw[e0];decide +kernel),if_neg (by rw[e0];decide +kernel),if_neg (by rw[e0];decide +kernel),if_pos e0]at h
   obtain ⟨a,ha,_⟩:=map_some' h
   exact plain_1 h0 hl (sent_plain hs n _ a hk (res_kid hr (by omega)) ha)
  ·rw[if_neg (by rw[e0];decide +kernel),if_neg (by rw[e0];decide +kernel),if_neg (by rw[e0];decide +kernel),if_neg (by rw[e0];decide +kernel),if_neg (by rw[e0];decide +kernel),if_neg (by rw[e0];decide +kernel),if_pos e0]at h
   obtain ⟨a,ha,_⟩:=map_some' h
   exact plain_1 h0 hl (sent_plain hs n _ a hk (res_kid hr (by omega)) ha)
  ·rw[if_neg (by rw[e0];decide +kernel),if_neg (by rw[e0];decide +kernel),if_neg (by rw[e0];decide +kernel),if_neg (by rw[e0];decide +kernel),if_neg (by rw[e0];decide +kernel),if_neg (by rw[e0];decide +kernel),if_neg (by rw[e0];decide +kernel),if_pos e0]at h
   obtain ⟨a,ha,h⟩:=bind_some' h
   obtain ⟨b,hb,_⟩:=map_some' h
   exact plain_2 h0 hl (sent_plain hs n _ a hk (res_kid hr (by omega)) ha) (sent_plain hs n _ b hk1 (res_kid hr (by omega)) hb)
  ·rw[if_neg (by rw[e0];decide +kernel),if_neg (by rw[e0];decide +kernel),if_neg (by rw[e0];decide +kernel),if_neg (by rw[e0];decide +kernel),if_neg (by rw[e0];decide +kernel),if_neg (by rw[e0];decide +kernel),if_neg (by rw[e0];decide +kernel),if_neg (by rw[e0];decide +kernel),if_pos e0]at h
   obtain ⟨a,ha,h⟩:=bind_some' h
   obtain ⟨b,hb,_⟩:=map_some' h
   exact plain_2 h0 hl (sent_plain hs n _ a hk (res_kid hr (by omega)) ha) (sent_plain hs n _ b hk1 (res_kid hr (by omega)) hb)
  ·rw[if_neg (by rw[e0];decide +kernel),if_neg (by rw[e0];decide +kernel),if_neg (by rw[e0];decide +kernel),if_neg (by rw[e0];decide +kernel),if_neg (by rw[e0];decide +kernel),if_neg (by rw[e0];decide +kernel),if_neg (by rw[e0];decide +kernel),if_neg (by rw[e0];decide +kernel),if_neg (by rw[e0];decide +kernel),if_pos e0]at h
   obtain ⟨a,ha,h⟩:=bind_some' h
   obtain ⟨b,hb,_⟩:=map_some' h
   exact plain_2 h0 hl (sent_plain hs n _ a hk (res_kid hr (by omega)) ha) (sent_plain hs n _ b hk1 (res_kid hr (by omega)) hb)
  ·rw[if_neg (by rw[e0];decide +kernel),if_neg (by rw[e0];decide +kernel),if_neg (by rw[e0];decide +kernel),if_neg (by rw[e0];decide +kernel),if_neg (by rw[e0];decide +kernel),if_neg (by rw[e0];decide +kernel),if_neg (by rw[e0];decide +kernel),if_neg (by rw[e0];decide +kernel),if_neg (by rw[e0];decide +kernel),if_neg (by rw[e0];decide +kernel),if_neg (by rw[e0];decide +kernel)]at h
   obtain ⟨x,hx,h⟩:=bind_some' h
   obtain ⟨a,ha,h⟩:=bind_some' h
   obtain ⟨b,hb,_⟩:=map_some' h
   have q:=sent_plain hs n x b (with_formed hk1 _ _ x (Nat.le_refl _) hk hx) (with_res (res_kid hr (by omega)) _ _ x (Nat.le_refl _) (res_kid hr (by omega)) hx) hb
   exact plain_2 h0 hl (sent_plain hs n _ a hk (res_kid hr (by omega)) ha) (with_plain _ _ x (Nat.le_refl _) hx q)
  ·rw[if_neg (by rw[e0];decide +kernel),if_neg (by rw[e0];decide +kernel),if_neg (by rw[e0];decide +kernel),if_neg (by rw[e0];decide +kernel),if_neg (by rw[e0];decide +kernel),if_neg (by rw[e0];decide +kernel),if_neg (by rw[e0];decide +kernel),if_neg (by rw[e0];decide +kernel),if_neg (by rw[e0];decide +kernel),if_neg (by rw[e0];decide +kernel),if_pos e0]at h
   exact plain_1 h0 hl (sent_plain hs n _ m hk (res_kid hr (by omega)) h)
theorem isF_f {t:S30} {n:ByteArray} {l:List UInt8} (h:t.f0=n) (hn:(n.toList == l)=false):isF t l=false:=by
 unfold isF;rw[h,hn]
theorem isF_t {t:S30} {n:ByteArray} {l:List UInt8} (h:t.f0=n) (hn:(n.toList == l)=true):isF t l=true:=by
 unfold isF;rw[h,hn]
theorem sort_fuel (ps:List S107):∀(n m:Nat) (t:S30),formedP structL t cCN=true→nodes t≤n→nodes t≤m→sortP ps n t=sortP ps m t
 |0,_,t,_,hn,_=>absurd hn (by have:=nodes_eq t;omega)
 |_,0,t,_,_,hm=>absurd hm (by have:=nodes_eq t;omega)
 |n+1,m+1,t,hf,hn,hm=>by
  obtain ⟨_,hsh⟩:=shape_CN hf
  rw[sortP,sortP]
  rcases hsh with ⟨e0,hl,_,hk⟩ | ⟨e0,hl,_,hk,hk1⟩ | ⟨e0,hl,_,hk,hk1⟩
  ·rw[if_pos (isF_t e0 (by decide +kernel)),if_pos (isF_t e0 (by decide +kernel))]
  ·have c1:=isF_f (l:=bNoun) e0 (by decide +kernel)
   have c2:=isF_t (l:=bAdj) e0 (by decide +kernel)
   simp only[c1,c2,Bool.false_eq_true,if_false,if_true]
   exact sort_fuel ps n m _ hk1 (nodes_kid hn (by omega)) (nodes_kid hm (by omega))
  ·have c1:=isF_f (l:=bNoun) e0 (by decide +kernel)
   have c2:=isF_f (l:=bAdj) e0 (by decide +kernel)
   simp only[c1,c2,Bool.false_eq_true,if_false]
   exact sort_fuel ps n m _ hk (nodes_kid hn (by omega)) (nodes_kid hm (by omega))
theorem mean_fuel (s:Sg):∀n m,(∀t,formedP structL t cCN=true→resP t=true→nodes t≤n→nodes t≤m→nounP s n t=nounP s m t)∧(∀t,formedP structL t cVP=true→resP t=true→nodes t≤n→nodes t≤m→verbP s n t=verbP s m t)∧∀t,formedP structL t cNP=true→resP t=true→nodes t≤n→nodes t≤m→∀d f,applyP s n t d f=applyP s m t d f
 |0,_=>⟨fun t _ _ hn=>absurd hn (by have:=nodes_eq t;omega),fun t _ _ hn=>absurd hn (by have:=nodes_eq t;omega),fun t _ _ hn=>absurd hn (by have:=nodes_eq t;omega)⟩
 |_+1,0=>⟨fun t _ _ _ hm=>absurd hm (by have:=nodes_eq t;omega),fun t _ _ _ hm=>absurd hm (by have:=nodes_eq t;omega),fun t _ _ _ hm=>absurd hm (by have:=nodes_eq t;omega)⟩
 |n+1,m+1=>by
  obtain ⟨hN,hV,hA⟩:=mean_fuel s n m
  refine ⟨fun t hf hr hn hm=> ?_,fun t hf hr hn hm=> ?_,fun t hf hr hn hm d f=> ?_⟩
  ·obtain ⟨_,hsh⟩:=shape_CN hf
   rw[nounP,nounP]
   rcases hsh with ⟨e0,hl,_,hk⟩ | ⟨e0,hl,_,hk,hk1⟩ | ⟨e0,hl,_,hk,hk1⟩
   ·rw[if_pos (isF_t e0 (by decide +kernel)),if_pos (isF_t e0 (by decide +kernel))]
   ·have c1:=isF_f (l:=bNoun) e0 (by decide +kernel)
    have c2:=isF_t (l:=bAdj) e0 (by decide +kernel)
    simp only[c1,c2,Bool.false_eq_true,if_false,if_true]
    rw[hN _ hk1 (res_kid hr (by omega)) (nodes_kid hn (by omega)) (nodes_kid hm (by omega))]
   ·have c1:=isF_f (l:=bNoun) e0 (by decide +kernel)
    have c2:=isF_f (l:=bAdj) e0 (by decide +kernel)
    simp only[c1,c2,Bool.false_eq_true,if_false]
    rw[hN _ hk (res_kid hr (by omega)) (nodes_kid hn (by omega)) (nodes_kid hm (by omega)),hV _ hk1 (res_kid hr (by omega)) (nodes_kid hn (by omega)) (nodes_kid hm (by omega))]
  ·obtain ⟨_,hsh⟩:=shape_VP hf
   rw[verbP,verbP]
   rcases hsh with ⟨e0,hl,_,hk⟩ | ⟨e0,hl,_,hk,hk1⟩ | ⟨e0,hl,_,hk,hk1,hk2⟩ | ⟨e0,hl,_,hk⟩ | ⟨e0,hl,_,hk,hk1⟩
   ·have c1:=isF_f (l:=bAndVP) e0 (by decide +kernel)
    have c2:=isF_t (l:=bAct) e0 (by decide +kernel)
    simp only[c1,c2,Bool.false_eq_true,if_false,if_true]
   ·have c1:=isF_f (l:=bAndVP) e0 (by decide +kernel)
    have c2:=isF_f (l:=bAct) e0 (by decide +kernel)
    have c3:=isF_f (l:=bCost) e0 (by decide +kernel)
    have c4:=isF_t (l:=bDo) e0 (by decide +kernel)
    have e1:=hA _ hk1 (res_kid hr (by omega)) (nodes_kid hn (by omega)) (nodes_kid hm (by omega))
    simp only[c1,c2,c3,c4,Bool.false_eq_true,if_false,if_true,e1]
   ·have c1:=isF_f (l:=bAndVP) e0 (by decide +kernel)
    have c2:=isF_f (l:=bAct) e0 (by decide +kernel)
    have c3:=isF_f (l:=bCost) e0 (by decide +kernel)
    have c4:=isF_f (l:=bDo) e0 (by decide +kernel)
    have e1:=hA _ hk1 (res_kid hr (by omega)) (nodes_kid hn (by omega)) (nodes_kid hm (by omega))
    have e2:=hA _ hk2 (res_kid hr (by omega)) (nodes_kid hn (by omega)) (nodes_kid hm (by omega))
    simp only[c1,c2,c3,c4,Bool.false_eq_true,if_false,e1,e2]
   ·have c1:=isF_f (l:=bAndVP) e0 (by decide +kernel)
    have c2:=isF_f (l:=bAct) e0 (by decide +kernel)
    have c3:=isF_t (l:=bCost) e0 (by decide +kernel)
    simp only[c1,c2,c3,Bool.false_eq_true,if_false,if_true]
   ·have c1:=isF_t (l:=bAndVP) e0 (by decide +kernel)
    simp only[c1,if_true]
    rw[hV _ hk (res_kid hr (by omega)) (nodes_kid hn (by omega)) (nodes_kid hm (by omega)),hV _ hk1 (res_kid hr (by omega)) (nodes_kid hn (by omega)) (nodes_kid hm (by omega))]
  ·obtain ⟨_,hsh⟩:=shape_NP hf
   rw[applyP,applyP]
   have hpro:∀x,t.f0=x→notPro x=true:=fun x hx=>by
    rw[resP_eq,Bool.and_eq_true]at hr
    rw[←hx]
    exact hr.1
   rcases hsh with ⟨e0,hl,_,hk⟩ | ⟨e0,hl,_,hk⟩ | ⟨e0,hl,_,hk⟩ | ⟨e0,hl,_,hk⟩ | ⟨e0,hl,_,hk,hk1⟩ | ⟨e0,hl,_,hk,hk1⟩ | ⟨e0,hl,_⟩ | ⟨e0,hl,_⟩
   ·have c1:=isF_t (l:=bName) e0 (by decide +kernel)
    simp only[c1,if_true]
   iterate 4 (
    focus
     have c1:=isF_f (l:=bName) e0 (by decide +kernel)
     have c2:=isF_f (l:=bBoth) e0 (by decide +kernel)
     simp only[c1,c2,Bool.false_eq_true,if_false]
     rw[hN _ hk (res_kid hr (by omega)) (nodes_kid hn (by omega)) (nodes_kid hm (by omega)),sort_fuel s.ps n m _ hk (nodes_kid hn (by omega)) (nodes_kid hm (by omega))]
     first
     |(have c3:=isF_t (l:=bSome) e0 (by decide +kernel);simp only[c3,if_true];done)
     |(have c3:=isF_f (l:=bSome) e0 (by decide +kernel);have c4:=isF_t (l:=bNo) e0 (by decide +kernel);simp only[c3,c4,Bool.false_eq_true,if_false,if_true];done)
     |(have c3:=isF_f (l:=bSome) e0 (by decide +kernel);have c4:=isF_f (l:=bNo) e0 (by decide +kernel);have c5:=isF_f (l:=bExc) e0 (by decide +kernel);simp only[c3,c4,c5,Bool.false_eq_true,if_false];done)
     |(rw[hN _ hk1 (res_kid hr (by omega)) (nodes_kid hn (by omega)) (nodes_kid hm (by omega))]))
   ·have c1:=isF_f (l:=bName) e0 (by decide +kernel)
    have c2:=isF_t (l:=bBoth) e0 (by decide +kernel)
    simp only[c1,c2,Bool.false_eq_true,if_false,if_true]
    rw[hA _ hk (res_kid hr (by omega)) (nodes_kid hn (by omega)) (nodes_kid hm (by omega)),hA _ hk1 (res_kid hr (by omega)) (nodes_kid hn (by omega)) (nodes_kid hm (by omega))]
   ·exact absurd (hpro _ e0) (by decide +kernel)
   ·exact absurd (hpro _ e0) (by decide +kernel)
end Go.Proofs.YtcfjomnihhdpaaaGreatDoor.A
