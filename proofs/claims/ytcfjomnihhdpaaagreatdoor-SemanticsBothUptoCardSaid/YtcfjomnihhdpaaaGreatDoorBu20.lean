/-
  A part of the proof: Q38, Tie.
-/
import Derived.Test.YtcfjomnihhdpaaaGreatDoorRows
import Derived.LaidByTextLater
import Derived.SevenTiedAt
import Derived.LaidSub
import Derived.LaidOnce
import Derived.Test.YtcfjomnihhdpaaaGreatDoorBu17
namespace Go.Proofs.YtcfjomnihhdpaaaGreatDoor.A
open Go.RowKit Go.Proofs.YtcfjomnihhdpaaaGreatDoorW.PrintWords Go.Proofs.YtcfjomnihhdpaaaGreatDoorW.PrintLast Go.Proofs.YtcfjomnihhdpaaaGreatDoorW.PrintMore
set_option linter.unusedVariables false
set_option linter.unusedSimpArgs false
set_option maxRecDepth 100000
section
theorem sum_mem {α:Type} {f:α→Nat} {x:α}:∀{l:List α},x∈l→f x≤sumOf f l
 |y::r,h=>by
  rcases List.mem_cons.1 h with rfl | h
  ·exact Nat.le_add_right _ _
  ·exact Nat.le_trans (sum_mem h) (Nat.le_add_left _ _)
theorem sum_ge {α:Type} {f:α→Nat} (h:∀x,1≤f x):∀l:List α,l.length≤sumOf f l
 | []=>Nat.le_refl _
 |y::r=>by have:=sum_ge h r;have:=h y;simp only[List.length_cons,sumOf];omega
theorem two {l:List Value} (h:l.length=2):∃a b,l=[a,b]:=by
 match l,h with
 | [a,b],_=>exact ⟨a,b,rfl⟩
instance inhB:Inhabited ByteArray:=⟨⟨#[]⟩⟩
instance inh105:Inhabited S105:=⟨z105⟩
instance inh107:Inhabited S107:=⟨z107⟩
def szS (y:ByteArray):Nat:=y.size+1
def sz105 (p:S105):Nat:=p.f0.size+p.f1.size+1
def sz107 (p:S107):Nat:=p.f0.size+sumOf szS p.f1+1
section
variable {H:Type} {enc:TypeId×Value→H} {w:World} {base:Nat} {spare:Nat→Bool} {held:Bool}
theorem open_str {fuel:Nat} {cs:List Value} {x:DataW H×List MemPlace} (h:DataW.trod enc Tryz.prog w base spare held fuel 9 cs=some x):∃s:ByteArray,cs=[.string s]∧szS s≤Rows.uptoBulk x.1:=by
 obtain ⟨s,hs,rfl,_⟩:=DataW.trod_string Tryz.underlying9 h
 refine ⟨s,hs,?_⟩
 have es:s.data.toList.length=s.size:=rfl
 unfold szS
 simp only[Rows.uptoBulk]
 omega
theorem open_strs {fuel:Nat} {cs:List Value} {x:DataW H×List MemPlace} (h:DataW.trod enc Tryz.prog w base spare held fuel 22 cs=some x):∃A xs c,cs=[.slice A xs.length c]∧xs.length≤c∧Kd.string.C w A xs.length xs∧sumOf szS xs+1≤Rows.uptoBulk x.1:=by
 obtain ⟨A,xs,c,ds,h1,h2,h3,h4,h5,h6⟩:=opened (kd:=Kd.string) (Q:=fun s d=>szS s≤Rows.uptoBulk d) Tryz.underlying22 (by kernel_rfl) h (fun n cs' y _ hy=>by
  obtain ⟨s,rfl,hb⟩:=open_str hy
  exact ⟨s,rfl,hb⟩)
 exact ⟨A,xs,c,h1,h2,h3,bulk_slice szS h4 h5 h6⟩
theorem open_con {fuel:Nat} {cs:List Value} {x:DataW H×List MemPlace} (h:DataW.trod enc Tryz.prog w base spare held fuel 105 cs=some x):∃p:S105,cs=[.string p.f0,.string p.f1]∧sz105 p≤Rows.uptoBulk x.1:=by
 obtain ⟨xs,n,rfl,rfl,hl,hlen,hf⟩:=DataW.trod_struct Tryz.underlying105 h
 obtain ⟨a,b,rfl⟩:=two (hl.trans (by kernel_rfl))
 match xs,hlen with
 | [y0,y1],_ =>
  have g0:DataW.trod enc Tryz.prog w base spare held n 9 [a]=some y0:=hf 0 _ rfl
  have g1:DataW.trod enc Tryz.prog w base spare held n 9 [b]=some y1:=hf 1 _ rfl
  obtain ⟨s,hs,b0⟩:=open_str g0
  obtain ⟨t,ht,b1⟩:=open_str g1
  injection hs with hs
  injection ht with ht
  subst hs
  subst ht
  refine ⟨⟨s,t⟩,rfl,?_⟩
  unfold szS at b0 b1
  unfold sz105
  simp only[List.map_cons,List.map_nil,Rows.uptoBulk,Rows.uptoBulkAll]
  omega
theorem open_prd {fuel:Nat} {cs:List Value} {x:DataW H×List MemPlace} (h:DataW.trod enc Tryz.prog w base spare held fuel 107 cs=some x):∃(p:S107) (A:Option Addr) (c:Nat),cs=[.string p.f0,.slice A p.f1.length c]∧p.f1.length≤c∧Kd.string.C w A p.f1.length p.f1∧sz107 p≤Rows.uptoBulk x.1:=by
 obtain ⟨xs,n,rfl,rfl,hl,hlen,hf⟩:=DataW.trod_struct Tryz.underlying107 h
 obtain ⟨a,b,rfl⟩:=two (hl.trans (by kernel_rfl))
 match xs,hlen with
 | [y0,y1],_ =>
  have g0:DataW.trod enc Tryz.prog w base spare held n 9 [a]=some y0:=hf 0 _ rfl
  have g1:DataW.trod enc Tryz.prog w base spare held n 22 [b]=some y1:=hf 1 _ rfl
  obtain ⟨s,hs,b0⟩:=open_str g0
  obtain ⟨A,ts,c,ht,l1,r1,b1⟩:=open_strs g1
  injection hs with hs
  injection ht with ht
  subst hs
  subst ht
  refine ⟨⟨s,ts⟩,A,c,rfl,l1,r1,?_⟩
  unfold szS at b0
  unfold sz107
  simp only[List.map_cons,List.map_nil,Rows.uptoBulk,Rows.uptoBulkAll]
  omega
theorem open_sig {fuel:Nat} {cs:List Value} {x:DataW H×List MemPlace} (h:DataW.trod enc Tryz.prog w base spare held fuel 26 cs=some x):∃s:Sg,cs=[.slice s.A0 s.ss.length s.c0,.slice s.A1 s.cs.length s.c1,.slice s.A2 s.ps.length s.c2]∧(Rows.uptoBulk x.1≤1048576→s.C w):=by
 obtain ⟨xs,n,rfl,rfl,hl,hlen,hf⟩:=DataW.trod_struct Tryz.underlying26 h
 obtain ⟨a,b,c,rfl⟩:=three (hl.trans (by kernel_rfl))
 match xs,hlen with
 | [y0,y1,y2],_ =>
  have g0:DataW.trod enc Tryz.prog w base spare held n 22 [a]=some y0:=hf 0 _ rfl
  have g1:DataW.trod enc Tryz.prog w base spare held n 23 [b]=some y1:=hf 1 _ rfl
  have g2:DataW.trod enc Tryz.prog w base spare held n 24 [c]=some y2:=hf 2 _ rfl
  obtain ⟨A0,ss,c0,e0,l0,r0,b0⟩:=open_strs g0
  obtain ⟨A1,cs1,c1,d1,e1,l1,r1,p1,q1,s1⟩:=opened (kd:=k105) (Q:=fun p d=>sz105 p≤Rows.uptoBulk d) Tryz.underlying23 (by kernel_rfl) g1 (fun n cs' y _ hy=>by
   obtain ⟨p,rfl,hb⟩:=open_con hy
   exact ⟨p,k105_mk w p,hb⟩)
  have b1:=bulk_slice sz105 p1 q1 s1
  obtain ⟨A2,ps,c2,d2,e2,l2,r2,p2,q2,s2⟩:=opened (kd:=k107) (Q:=fun p d=>sz107 p≤Rows.uptoBulk d) Tryz.underlying24 (by kernel_rfl) g2 (fun n cs' y _ hy=>by
   obtain ⟨p,A,c,rfl,hl,hC,hb⟩:=open_prd hy
   exact ⟨p,k107_mk w p hl hC,hb⟩)
  have b2:=bulk_slice sz107 p2 q2 s2
  injection e0 with e0
  injection e1 with e1
  injection e2 with e2
  subst e0
  subst e1
  subst e2
  refine ⟨⟨A0,c0,ss,A1,c1,cs1,A2,c2,ps⟩,rfl,fun hk=> ?_⟩
  simp only[List.map_cons,List.map_nil,Rows.uptoBulk,Rows.uptoBulkAll]at hk
  have n0:=sum_ge (f:=szS) (fun x=>by unfold szS;omega) ss
  have n1:=sum_ge (f:=sz105) (fun x=>by unfold sz105;omega) cs1
  have n2:=sum_ge (f:=sz107) (fun x=>by unfold sz107;omega) ps
  refine ⟨r0,l0,r1,l1,r2,l2,fun y hy=> ?_,fun y hy=> ?_,fun y hy=> ?_,by show ss.length≤2000000;omega,by show cs1.length≤2000000;omega,by show ps.length≤2000000;omega⟩
  ·have:szS y≤sumOf szS ss:=sum_mem hy
   have e:szS y=y.size+1:=rfl
   omega
  ·have:sz105 y≤sumOf sz105 cs1:=sum_mem hy
   have e:sz105 y=y.f0.size+y.f1.size+1:=rfl
   omega
  ·have h1:sz107 y≤sumOf sz107 ps:=sum_mem hy
   have e:sz107 y=y.f0.size+sumOf szS y.f1+1:=rfl
   have h2:=sum_ge (f:=szS) (fun x=>by unfold szS;omega) y.f1
   refine ⟨by omega,by omega,fun z hz=> ?_⟩
   have h3:=sum_mem (f:=szS) hz
   have e:szS z=z.size+1:=rfl
   omega
end
end
end Go.Proofs.YtcfjomnihhdpaaaGreatDoor.A
namespace Go.Proofs.YtcfjomnihhdpaaaGreatDoor
open Go
set_option maxRecDepth 100000
theorem seatTie1:Tryz.prog.laidByTextLater [("math/bits.deBruijn32tab",Rows.laid_math_bits_deBruijn32tab),("math/bits.deBruijn64tab",Rows.laid_math_bits_deBruijn64tab),("internal/strconv.uint64pow10",Rows.laid_internal_strconv_uint64pow10),("unicode/utf8.acceptRanges",Rows.laid_unicode_utf8_acceptRanges)] [.data,.data,.data,.data] true :=
 Program.laidByTextLater_by_one 34 8 65 (by kernel_rfl) (by kernel_rfl) (by kernel_rfl) (by kernel_rfl) (by kernel_rfl) (by kernel_rfl) (fun _ _=>by kernel_rfl)
theorem pin_laid_strconv_isGraphic:Tryz.pinned.checked.prog.pinnedFits "strconv.isGraphic" =true:=by kernel_rfl
theorem pin_laid_strconv_isNotPrint16:Tryz.pinned.checked.prog.pinnedFits "strconv.isNotPrint16" =true:=by kernel_rfl
theorem pin_laid_strconv_isNotPrint32:Tryz.pinned.checked.prog.pinnedFits "strconv.isNotPrint32" =true:=by kernel_rfl
theorem pin_laid_strconv_isPrint16:Tryz.pinned.checked.prog.pinnedFits "strconv.isPrint16" =true:=by kernel_rfl
theorem pin_laid_strconv_isPrint32:Tryz.pinned.checked.prog.pinnedFits "strconv.isPrint32" =true:=by kernel_rfl
theorem pin_laid_unicode_utf8_first:Tryz.pinned.checked.prog.pinnedFits "unicode/utf8.first" =true:=by kernel_rfl
theorem noOwnUnsafe:Tryz.pinned.checked.prog.headLifts.contains "ownunsafe" =false:=by kernel_rfl
theorem fits1:Tryz.pinned.checked.prog.listedFits [("math/bits.deBruijn32tab",Rows.laid_math_bits_deBruijn32tab),("math/bits.deBruijn64tab",Rows.laid_math_bits_deBruijn64tab),("internal/strconv.uint64pow10",Rows.laid_internal_strconv_uint64pow10),("unicode/utf8.acceptRanges",Rows.laid_unicode_utf8_acceptRanges),("strconv.isGraphic",Rows.laid_strconv_isGraphic),("strconv.isNotPrint16",Rows.laid_strconv_isNotPrint16),("strconv.isNotPrint32",Rows.laid_strconv_isNotPrint32),("strconv.isPrint16",Rows.laid_strconv_isPrint16),("strconv.isPrint32",Rows.laid_strconv_isPrint32),("unicode/utf8.first",Rows.laid_unicode_utf8_first)]=true:=by
 unfold Program.listedFits
 rw[noOwnUnsafe]
 kernel_rfl
theorem tie:Tryz.prog.laidByTextLater [("math/bits.deBruijn32tab",Rows.laid_math_bits_deBruijn32tab),("math/bits.deBruijn64tab",Rows.laid_math_bits_deBruijn64tab),("internal/strconv.uint64pow10",Rows.laid_internal_strconv_uint64pow10),("unicode/utf8.acceptRanges",Rows.laid_unicode_utf8_acceptRanges)] [.data,.data,.data,.data] true :=
 Program.laidByTextLater.sub seatTie1 ["math/bits.deBruijn32tab", "math/bits.deBruijn64tab", "internal/strconv.uint64pow10", "unicode/utf8.acceptRanges"] (by kernel_rfl) (by kernel_rfl)
theorem semanticsBothUpto_row_tie:Rows.semanticsBothUptoRow.laidByTextAt .later Tryz.pinned [.data,.data,.data,.data,.pinned,.pinned,.pinned,.pinned,.pinned,.pinned] true :=
 OpenClaim.laidByTextAt_pinned rfl rfl tie rfl rfl rfl rfl (fun y hy _e=>by
  simp only[Rows.semanticsBothUptoRow,List.zip_cons_cons,List.zip_nil_right,List.mem_cons,List.mem_nil_iff,or_false]at hy
  rcases hy with rfl | rfl | rfl | rfl | rfl | rfl | rfl | rfl | rfl | rfl
  ·cases _e
  ·cases _e
  ·cases _e
  ·cases _e
  ·exact ⟨pin_laid_strconv_isGraphic,by kernel_rfl⟩
  ·exact ⟨pin_laid_strconv_isNotPrint16,by kernel_rfl⟩
  ·exact ⟨pin_laid_strconv_isNotPrint32,by kernel_rfl⟩
  ·exact ⟨pin_laid_strconv_isPrint16,by kernel_rfl⟩
  ·exact ⟨pin_laid_strconv_isPrint32,by kernel_rfl⟩
  ·exact ⟨pin_laid_unicode_utf8_first,by kernel_rfl⟩) fits1
end Go.Proofs.YtcfjomnihhdpaaaGreatDoor
