/-
  A part of the proof: A0, S0, A1, S1, S2, S3, S4.
-/
import Derived.Test.YtcfjomnihhdpaaaGreatDoorProg
import Derived.Below
import Derived.Deep.Draws
import Derived.Deep.AppendLies
import Derived.Maps.AppendAt
import Derived.OwnWalk
import Derived.Laws.BytesArg
import Derived.Laws.MakeOwn
import Derived.Laws.OwnMore
import Derived.Deep.OwnRows
import Derived.Tactics
import Derived.Lib.ConvBytes
import Derived.Laws.Slices
import Derived.WalkKit
import Derived.KernelRfl
import Derived.RowKit3
import Derived.Deep.LoopGhost
import Derived.Deep.QuietTactic
import Derived.BigQuiet
import Derived.WideLaws
import Derived.Deep.DeepCutAuto
import Derived.Deep.CutBlock
import Derived.Deep.RegionHeld3
import Derived.Laws.Rows
import Derived.Lib.AppendStr
import Derived.ArgAppend
import Derived.Laws.IdiomCopy
import Derived.OrdersHeld
import Derived.Laws.BitsLemmas
import Derived.RowKit
import Derived.Laws.StructEq
import Derived.Maps.OwnSet
import Derived.StringKeys
import Derived.Test.YtcfjomnihhdpaaaGreatDoorBu0
import Derived.Test.YtcfjomnihhdpaaaGreatDoorBu1
namespace Go.Proofs.YtcfjomnihhdpaaaGreatDoor.A
open Go.RowKit Go.Proofs.YtcfjomnihhdpaaaGreatDoorW.PrintWords Go.Proofs.YtcfjomnihhdpaaaGreatDoorW.PrintLast Go.Proofs.YtcfjomnihhdpaaaGreatDoorW.PrintMore
section
attribute [local go_sem] max2_int min2_int max_two min_two
set_option linter.unusedVariables false
set_option linter.unusedSimpArgs false
theorem info3:(Tryz.prog.info? 3).map (fun i=>(i.zero,i.size,i.bytes))=some (some (.int .i64 0),1,8):=by kernel_rfl
theorem info9:(Tryz.prog.info? 9).map (fun i=>(i.zero,i.size,i.bytes))=some (some (.string ⟨#[]⟩),1,16):=by kernel_rfl
theorem info37:(Tryz.prog.info? 37).map (fun i=>(i.zero,i.size,i.bytes))=some (some (.agg #[(.int .i64 0),(.string ⟨#[]⟩),(.slice none 0 0),(.int .i64 0),(.int .i64 0),(.slice none 0 0)]),6,88):=by kernel_rfl
theorem info59:(Tryz.prog.info? 59).map (fun i=>(i.zero,i.size,i.bytes))=some (some (.agg #[(.int .i64 0),(.int .i64 0),(.string ⟨#[]⟩)]),3,32):=by kernel_rfl
structure S30 where
 f0:ByteArray
 f1:(List Int)
 f2:(List S30)
def z30:S30:=⟨(⟨#[]⟩:ByteArray),([]:List Int),([]:List S30)⟩
def F30 (d:Kd S30):Kd S30:=Kd.iso (Kd.pair Kd.string (Kd.pair (Kd.slice 3 (Kd.int .i64)) (Kd.slice 30 d))) (fun x:S30=>(x.f0,x.f1,x.f2))
theorem mono30:Kd.Mono F30:=Kd.mono_iso _ (Kd.mono_pair (Kd.mono_const _) (Kd.mono_pair (Kd.mono_const _) (Kd.mono_slice 30 Kd.mono_id)))
theorem sub30:Kd.Sub F30 [3,30]:=Kd.sub_iso _ (Kd.sub_pair (Kd.sub_const _ (by decide)) (Kd.sub_pair (Kd.sub_const _ (by decide)) (Kd.sub_slice 30 (by decide) Kd.sub_id)))
theorem sz30:∀n,(Kd.upto F30 3 [3,30] n).sz=3:=Kd.upto_sz (fun _=>rfl)
def k30:Kd S30:=Kd.fix F30 3 [3,30] sz30 (Kd.upto_E sub30)
theorem k30_heap:Kd.Heap k30:=Kd.heap_fix (fun _ h_=>Kd.heap_iso _ (Kd.heap_pair Kd.heap_string (Kd.heap_pair (Kd.heap_slice 3 (Kd.heap_int .i64)) (Kd.heap_slice 30 h_))))
theorem k30_open {w:World} {x:S30} {cs:List Value} (h:k30.K w x cs):∃A1 c1 A2 c2,cs=[.string x.f0,.slice A1 x.f1.length c1,.slice A2 x.f2.length c2]∧x.f1.length≤c1∧(Kd.int .i64).C w A1 x.f1.length x.f1∧x.f2.length≤c2∧k30.C w A2 x.f2.length x.f2:=by
 obtain ⟨n,h⟩:=h
 cases n with
 |zero=>exact h.elim
 |succ n =>
  obtain ⟨_,_,rfl,rfl,⟨_,_,rfl,⟨A1,c1,rfl,l1,g1⟩,⟨A2,c2,rfl,l2,g2⟩⟩⟩:=h
  exact ⟨A1,c1,A2,c2,rfl,l1,g1,l2,Kd.fix_C g2⟩
theorem k30_mk (w:World) (x:S30) {A1:Option Addr} {c1:Nat} (l1:x.f1.length≤c1) (g1:(Kd.int .i64).C w A1 x.f1.length x.f1) {A2:Option Addr} {c2:Nat} (l2:x.f2.length≤c2) (g2:k30.C w A2 x.f2.length x.f2):k30.K w x [.string x.f0,.slice A1 x.f1.length c1,.slice A2 x.f2.length c2]:=by
 obtain ⟨n2,q2⟩:=Kd.fix_C_back mono30 g2
 have r2:=Kd.upto_C_le mono30 sz30 (show n2≤n2 by omega) q2
 exact ⟨n2+1,⟨[.string x.f0],[.slice A1 x.f1.length c1,.slice A2 x.f2.length c2],rfl,rfl,⟨[.slice A1 x.f1.length c1],[.slice A2 x.f2.length c2],rfl,⟨A1,c1,rfl,l1,g1⟩,⟨A2,c2,rfl,l2,r2⟩⟩⟩⟩
theorem k30_mkF (W:World) (ok:Nat→Prop) (x:S30) {A1:Option Addr} {c1:Nat} (l1:x.f1.length≤c1) (g1:Kd.F (Kd.int .i64) W ok A1 x.f1.length x.f1) {A2:Option Addr} {c2:Nat} (l2:x.f2.length≤c2) (g2:Kd.F k30 W ok A2 x.f2.length x.f2):Kd.FK k30 W ok x [.string x.f0,.slice A1 x.f1.length c1,.slice A2 x.f2.length c2]:=fun W2 hW=>k30_mk W2 x l1 (g1 W2 hW) l2 (g2 W2 hW)
def rd_T30 (xs:List S30) (i:Int):S30:=xs.getD i.toNat z30
theorem at_T30 {w:World} {A:Option Addr} {n:Nat} {xs:List S30} (h:Kd.C k30 w A n xs) (i:Int) (h0:0≤i) (h1:i<n):∃ad A1 c1 A2 c2,A=some ad∧w.cell? (ad.add (i.toNat*3))=some (.string (rd_T30 xs i).f0)∧w.cell? ⟨(ad.add (i.toNat*3)).block,(ad.add (i.toNat*3)).off+1,none⟩=some (.slice A1 (rd_T30 xs i).f1.length c1)∧w.cell? ⟨(ad.add (i.toNat*3)).block,(ad.add (i.toNat*3)).off+2,none⟩=some (.slice A2 (rd_T30 xs i).f2.length c2)∧(rd_T30 xs i).f1.length≤c1∧(Kd.int .i64).C w A1 (rd_T30 xs i).f1.length (rd_T30 xs i).f1∧(rd_T30 xs i).f2.length≤c2∧k30.C w A2 (rd_T30 xs i).f2.length (rd_T30 xs i).f2:=by
 obtain ⟨ad,c,e,_,hK,hc0⟩:=Kd.C_get h z30 i h0 h1
 have hc:∀j u,c[j]? =some u→w.cell? (ad.add (i.toNat*3+j))=some u:=hc0
 obtain ⟨A1,c1,A2,c2,rfl,l1,g1,l2,g2⟩:=k30_open hK
 exact ⟨ad,A1,c1,A2,c2,e,hc 0 _ rfl,by rw[←add_field _ _ 1 (by omega)];exact hc 1 _ rfl,by rw[←add_field _ _ 2 (by omega)];exact hc 2 _ rfl,l1,g1,l2,g2⟩
structure S160 where
 f0:ByteArray
 f1:(List ByteArray)
 f2:ByteArray
 f3:Int
def z160:S160:=⟨(⟨#[]⟩:ByteArray),([]:List ByteArray),(⟨#[]⟩:ByteArray),(0:Int)⟩
def k160:Kd S160:=Kd.iso (Kd.pair Kd.string (Kd.pair (Kd.slice 9 Kd.string) (Kd.pair Kd.string (Kd.int .i64)))) (fun x:S160=>(x.f0,x.f1,x.f2,x.f3))
theorem k160_open {w:World} {x:S160} {cs:List Value} (h:k160.K w x cs):∃A1 c1,cs=[.string x.f0,.slice A1 x.f1.length c1,.string x.f2,.int .i64 x.f3]∧x.f1.length≤c1∧Kd.string.C w A1 x.f1.length x.f1:=by
 obtain ⟨_,_,rfl,rfl,⟨_,_,rfl,⟨A1,c1,rfl,l1,g1⟩,⟨_,_,rfl,rfl,rfl⟩⟩⟩:=h
 exact ⟨A1,c1,rfl,l1,g1⟩
theorem k160_mk (w:World) (x:S160) {A1:Option Addr} {c1:Nat} (l1:x.f1.length≤c1) (g1:Kd.string.C w A1 x.f1.length x.f1):k160.K w x [.string x.f0,.slice A1 x.f1.length c1,.string x.f2,.int .i64 x.f3]:=⟨[.string x.f0],[.slice A1 x.f1.length c1,.string x.f2,.int .i64 x.f3],rfl,rfl,⟨[.slice A1 x.f1.length c1],[.string x.f2,.int .i64 x.f3],rfl,⟨A1,c1,rfl,l1,g1⟩,⟨[.string x.f2],[.int .i64 x.f3],rfl,rfl,rfl⟩⟩⟩
theorem k160_openF {W:World} {ok:Nat→Prop} {x:S160} {cs:List Value} (h:Kd.FK k160 W ok x cs):∃A1 c1,cs=[.string x.f0,.slice A1 x.f1.length c1,.string x.f2,.int .i64 x.f3]∧x.f1.length≤c1∧Kd.F Kd.string W ok A1 x.f1.length x.f1:=by
 obtain ⟨A1,c1,rfl,l1,_⟩:=k160_open (Kd.FK_now h)
 exact ⟨A1,c1,rfl,l1,(fun W' hW=>by obtain ⟨A1_,c1_,he,l1_,g1_⟩:=k160_open (h W' hW);injection (Option.some.inj (show some (Value.slice A1 x.f1.length c1)=some (Value.slice A1_ x.f1.length c1_)from congrArg (fun l=>l[1]?) he))with ha_ _ _;rw[ha_];exact g1_)⟩
def rd_T160 (xs:List S160) (i:Int):S160:=xs.getD i.toNat z160
structure S105 where
 f0:ByteArray
 f1:ByteArray
def z105:S105:=⟨(⟨#[]⟩:ByteArray),(⟨#[]⟩:ByteArray)⟩
def k105:Kd S105:=Kd.iso (Kd.pair Kd.string Kd.string) (fun x:S105=>(x.f0,x.f1))
theorem k105_heap:Kd.Heap k105:=Kd.heap_iso _ (Kd.heap_pair Kd.heap_string Kd.heap_string)
theorem k105_open {w:World} {x:S105} {cs:List Value} (h:k105.K w x cs):cs=[.string x.f0,.string x.f1]:=by
 obtain ⟨_,_,rfl,rfl,rfl⟩:=h
 exact rfl
theorem k105_mk (w:World) (x:S105)  :k105.K w x [.string x.f0,.string x.f1]:=⟨[.string x.f0],[.string x.f1],rfl,rfl,rfl⟩
def rd_T105 (xs:List S105) (i:Int):S105:=xs.getD i.toNat z105
theorem at_T105 {w:World} {A:Option Addr} {n:Nat} {xs:List S105} (h:Kd.C k105 w A n xs) (i:Int) (h0:0≤i) (h1:i<n):∃ad,A=some ad∧w.cell? (ad.add (i.toNat*2))=some (.string (rd_T105 xs i).f0)∧w.cell? ⟨(ad.add (i.toNat*2)).block,(ad.add (i.toNat*2)).off+1,none⟩=some (.string (rd_T105 xs i).f1):=by
 obtain ⟨ad,c,e,_,hK,hc0⟩:=Kd.C_get h z105 i h0 h1
 have hc:∀j u,c[j]? =some u→w.cell? (ad.add (i.toNat*2+j))=some u:=hc0
 obtain rfl:=k105_open hK
 exact ⟨ad,e,hc 0 _ rfl,by rw[←add_field _ _ 1 (by omega)];exact hc 1 _ rfl⟩
structure S107 where
 f0:ByteArray
 f1:(List ByteArray)
def z107:S107:=⟨(⟨#[]⟩:ByteArray),([]:List ByteArray)⟩
def k107:Kd S107:=Kd.iso (Kd.pair Kd.string (Kd.slice 9 Kd.string)) (fun x:S107=>(x.f0,x.f1))
theorem k107_heap:Kd.Heap k107:=Kd.heap_iso _ (Kd.heap_pair Kd.heap_string (Kd.heap_slice 9 Kd.heap_string))
theorem k107_open {w:World} {x:S107} {cs:List Value} (h:k107.K w x cs):∃A1 c1,cs=[.string x.f0,.slice A1 x.f1.length c1]∧x.f1.length≤c1∧Kd.string.C w A1 x.f1.length x.f1:=by
 obtain ⟨_,_,rfl,rfl,⟨A1,c1,rfl,l1,g1⟩⟩:=h
 exact ⟨A1,c1,rfl,l1,g1⟩
theorem k107_mk (w:World) (x:S107) {A1:Option Addr} {c1:Nat} (l1:x.f1.length≤c1) (g1:Kd.string.C w A1 x.f1.length x.f1):k107.K w x [.string x.f0,.slice A1 x.f1.length c1]:=⟨[.string x.f0],[.slice A1 x.f1.length c1],rfl,rfl,⟨A1,c1,rfl,l1,g1⟩⟩
def rd_T107 (xs:List S107) (i:Int):S107:=xs.getD i.toNat z107
theorem at_T107 {w:World} {A:Option Addr} {n:Nat} {xs:List S107} (h:Kd.C k107 w A n xs) (i:Int) (h0:0≤i) (h1:i<n):∃ad A1 c1,A=some ad∧w.cell? (ad.add (i.toNat*2))=some (.string (rd_T107 xs i).f0)∧w.cell? ⟨(ad.add (i.toNat*2)).block,(ad.add (i.toNat*2)).off+1,none⟩=some (.slice A1 (rd_T107 xs i).f1.length c1)∧(rd_T107 xs i).f1.length≤c1∧Kd.string.C w A1 (rd_T107 xs i).f1.length (rd_T107 xs i).f1:=by
 obtain ⟨ad,c,e,_,hK,hc0⟩:=Kd.C_get h z107 i h0 h1
 have hc:∀j u,c[j]? =some u→w.cell? (ad.add (i.toNat*2+j))=some u:=hc0
 obtain ⟨A1,c1,rfl,l1,g1⟩:=k107_open hK
 exact ⟨ad,A1,c1,e,hc 0 _ rfl,by rw[←add_field _ _ 1 (by omega)];exact hc 1 _ rfl,l1,g1⟩
structure S59 where
 f0:Int
 f1:Int
 f2:ByteArray
def z59:S59:=⟨(0:Int),(0:Int),(⟨#[]⟩:ByteArray)⟩
def k59:Kd S59:=Kd.iso (Kd.pair (Kd.int .i64) (Kd.pair (Kd.int .i64) Kd.string)) (fun x:S59=>(x.f0,x.f1,x.f2))
theorem k59_open {w:World} {x:S59} {cs:List Value} (h:k59.K w x cs):cs=[.int .i64 x.f0,.int .i64 x.f1,.string x.f2]:=by
 obtain ⟨_,_,rfl,rfl,⟨_,_,rfl,rfl,rfl⟩⟩:=h
 exact rfl
theorem k59_mk (w:World) (x:S59)  :k59.K w x [.int .i64 x.f0,.int .i64 x.f1,.string x.f2]:=⟨[.int .i64 x.f0],[.int .i64 x.f1,.string x.f2],rfl,rfl,⟨[.int .i64 x.f1],[.string x.f2],rfl,rfl,rfl⟩⟩
theorem k59_mkF (W:World) (ok:Nat→Prop) (x:S59):Kd.FK k59 W ok x [.int .i64 x.f0,.int .i64 x.f1,.string x.f2]:=fun W2 _=>k59_mk W2 x
def rd_T59 (xs:List S59) (i:Int):S59:=xs.getD i.toNat z59
theorem at_T59 {w:World} {A:Option Addr} {n:Nat} {xs:List S59} (h:Kd.C k59 w A n xs) (i:Int) (h0:0≤i) (h1:i<n):∃ad,A=some ad∧w.cell? (ad.add (i.toNat*3))=some (.int .i64 (rd_T59 xs i).f0)∧w.cell? ⟨(ad.add (i.toNat*3)).block,(ad.add (i.toNat*3)).off+1,none⟩=some (.int .i64 (rd_T59 xs i).f1)∧w.cell? ⟨(ad.add (i.toNat*3)).block,(ad.add (i.toNat*3)).off+2,none⟩=some (.string (rd_T59 xs i).f2):=by
 obtain ⟨ad,c,e,_,hK,hc0⟩:=Kd.C_get h z59 i h0 h1
 have hc:∀j u,c[j]? =some u→w.cell? (ad.add (i.toNat*3+j))=some u:=hc0
 obtain rfl:=k59_open hK
 exact ⟨ad,e,hc 0 _ rfl,by rw[←add_field _ _ 1 (by omega)];exact hc 1 _ rfl,by rw[←add_field _ _ 2 (by omega)];exact hc 2 _ rfl⟩
structure S37 where
 f0:Int
 f1:ByteArray
 f2:(List S59)
 f3:Int
 f4:Int
 f5:(List S37)
def z37:S37:=⟨(0:Int),(⟨#[]⟩:ByteArray),([]:List S59),(0:Int),(0:Int),([]:List S37)⟩
def F37 (d:Kd S37):Kd S37:=Kd.iso (Kd.pair (Kd.int .i64) (Kd.pair Kd.string (Kd.pair (Kd.slice 59 k59) (Kd.pair (Kd.int .i64) (Kd.pair (Kd.int .i64) (Kd.slice 37 d)))))) (fun x:S37=>(x.f0,x.f1,x.f2,x.f3,x.f4,x.f5))
theorem mono37:Kd.Mono F37:=Kd.mono_iso _ (Kd.mono_pair (Kd.mono_const _) (Kd.mono_pair (Kd.mono_const _) (Kd.mono_pair (Kd.mono_const _) (Kd.mono_pair (Kd.mono_const _) (Kd.mono_pair (Kd.mono_const _) (Kd.mono_slice 37 Kd.mono_id))))))
theorem sub37:Kd.Sub F37 [37,59]:=Kd.sub_iso _ (Kd.sub_pair (Kd.sub_const _ (by decide)) (Kd.sub_pair (Kd.sub_const _ (by decide)) (Kd.sub_pair (Kd.sub_const _ (by decide)) (Kd.sub_pair (Kd.sub_const _ (by decide)) (Kd.sub_pair (Kd.sub_const _ (by decide)) (Kd.sub_slice 37 (by decide) Kd.sub_id))))))
theorem sz37:∀n,(Kd.upto F37 6 [37,59] n).sz=6:=Kd.upto_sz (fun _=>rfl)
def k37:Kd S37:=Kd.fix F37 6 [37,59] sz37 (Kd.upto_E sub37)
theorem k37_open {w:World} {x:S37} {cs:List Value} (h:k37.K w x cs):∃A2 c2 A5 c5,cs=[.int .i64 x.f0,.string x.f1,.slice A2 x.f2.length c2,.int .i64 x.f3,.int .i64 x.f4,.slice A5 x.f5.length c5]∧x.f2.length≤c2∧k59.C w A2 x.f2.length x.f2∧x.f5.length≤c5∧k37.C w A5 x.f5.length x.f5:=by
 obtain ⟨n,h⟩:=h
 cases n with
 |zero=>exact h.elim
 |succ n =>
  obtain ⟨_,_,rfl,rfl,⟨_,_,rfl,rfl,⟨_,_,rfl,⟨A2,c2,rfl,l2,g2⟩,⟨_,_,rfl,rfl,⟨_,_,rfl,rfl,⟨A5,c5,rfl,l5,g5⟩⟩⟩⟩⟩⟩:=h
  exact ⟨A2,c2,A5,c5,rfl,l2,g2,l5,Kd.fix_C g5⟩
theorem k37_mk (w:World) (x:S37) {A2:Option Addr} {c2:Nat} (l2:x.f2.length≤c2) (g2:k59.C w A2 x.f2.length x.f2) {A5:Option Addr} {c5:Nat} (l5:x.f5.length≤c5) (g5:k37.C w A5 x.f5.length x.f5):k37.K w x [.int .i64 x.f0,.string x.f1,.slice A2 x.f2.length c2,.int .i64 x.f3,.int .i64 x.f4,.slice A5 x.f5.length c5]:=by
 obtain ⟨n5,q5⟩:=Kd.fix_C_back mono37 g5
 have r5:=Kd.upto_C_le mono37 sz37 (show n5≤n5 by omega) q5
 exact ⟨n5+1,⟨[.int .i64 x.f0],[.string x.f1,.slice A2 x.f2.length c2,.int .i64 x.f3,.int .i64 x.f4,.slice A5 x.f5.length c5],rfl,rfl,⟨[.string x.f1],[.slice A2 x.f2.length c2,.int .i64 x.f3,.int .i64 x.f4,.slice A5 x.f5.length c5],rfl,rfl,⟨[.slice A2 x.f2.length c2],[.int .i64 x.f3,.int .i64 x.f4,.slice A5 x.f5.length c5],rfl,⟨A2,c2,rfl,l2,g2⟩,⟨[.int .i64 x.f3],[.int .i64 x.f4,.slice A5 x.f5.length c5],rfl,rfl,⟨[.int .i64 x.f4],[.slice A5 x.f5.length c5],rfl,rfl,⟨A5,c5,rfl,l5,r5⟩⟩⟩⟩⟩⟩⟩
def rd_T37 (xs:List S37) (i:Int):S37:=xs.getD i.toNat z37
theorem at_T37 {w:World} {A:Option Addr} {n:Nat} {xs:List S37} (h:Kd.C k37 w A n xs) (i:Int) (h0:0≤i) (h1:i<n):∃ad A2 c2 A5 c5,A=some ad∧w.cell? (ad.add (i.toNat*6))=some (.int .i64 (rd_T37 xs i).f0)∧w.cell? ⟨(ad.add (i.toNat*6)).block,(ad.add (i.toNat*6)).off+1,none⟩=some (.string (rd_T37 xs i).f1)∧w.cell? ⟨(ad.add (i.toNat*6)).block,(ad.add (i.toNat*6)).off+2,none⟩=some (.slice A2 (rd_T37 xs i).f2.length c2)∧w.cell? ⟨(ad.add (i.toNat*6)).block,(ad.add (i.toNat*6)).off+3,none⟩=some (.int .i64 (rd_T37 xs i).f3)∧w.cell? ⟨(ad.add (i.toNat*6)).block,(ad.add (i.toNat*6)).off+4,none⟩=some (.int .i64 (rd_T37 xs i).f4)∧w.cell? ⟨(ad.add (i.toNat*6)).block,(ad.add (i.toNat*6)).off+5,none⟩=some (.slice A5 (rd_T37 xs i).f5.length c5)∧(rd_T37 xs i).f2.length≤c2∧k59.C w A2 (rd_T37 xs i).f2.length (rd_T37 xs i).f2∧(rd_T37 xs i).f5.length≤c5∧k37.C w A5 (rd_T37 xs i).f5.length (rd_T37 xs i).f5:=by
 obtain ⟨ad,c,e,_,hK,hc0⟩:=Kd.C_get h z37 i h0 h1
 have hc:∀j u,c[j]? =some u→w.cell? (ad.add (i.toNat*6+j))=some u:=hc0
 obtain ⟨A2,c2,A5,c5,rfl,l2,g2,l5,g5⟩:=k37_open hK
 exact ⟨ad,A2,c2,A5,c5,e,hc 0 _ rfl,by rw[←add_field _ _ 1 (by omega)];exact hc 1 _ rfl,by rw[←add_field _ _ 2 (by omega)];exact hc 2 _ rfl,by rw[←add_field _ _ 3 (by omega)];exact hc 3 _ rfl,by rw[←add_field _ _ 4 (by omega)];exact hc 4 _ rfl,by rw[←add_field _ _ 5 (by omega)];exact hc 5 _ rfl,l2,g2,l5,g5⟩
end
set_option linter.unusedVariables false
set_option linter.unusedSimpArgs false
section
theorem wrap_small {x:Int} (h0: -9000000000000000000≤x) (h1:x≤9000000000000000000):wrap64 x=x:=by unfold wrap64;omega
theorem Ev.pure_ {α:Type} {g:Nat→Option α} {r:α} (h:∀k,g k=some r):Ev g r:=⟨0,fun k _=>h k⟩
abbrev Decls:=List (ByteArray×ByteArray)
def known (l:Decls) (x:ByteArray):Bool:=l.any fun p=>decide (p.1.data.toList=x.data.toList)
def kindOf:Decls→ByteArray→ByteArray
 | [],_=>⟨#[]⟩
 |p::r,x=>if p.1.data.toList=x.data.toList then p.2 else kindOf r x
theorem kindOf_snoc (l:Decls) (a b x:ByteArray) (h:known l a=false):kindOf (l++[(a,b)]) x=if a.data.toList=x.data.toList then b else kindOf l x:=by
 induction l with
 |nil=>rfl
 |cons p r ih =>
  have hr:known r a=false:=by
   unfold known at h ⊢
   rw[List.any_cons,Bool.or_eq_false_iff]at h
   exact h.2
  have hp:p.1.data.toList≠a.data.toList:=by
   unfold known at h
   rw[List.any_cons,Bool.or_eq_false_iff]at h
   exact of_decide_eq_false h.1
  rw[List.cons_append,kindOf,kindOf,ih hr]
  by_cases h1:p.1.data.toList=x.data.toList
  ·rw[if_pos h1,if_pos h1,if_neg (fun h2=>hp (h1.trans h2.symm))]
  ·rw[if_neg h1,if_neg h1]
theorem known_snoc (l:Decls) (a b x:ByteArray):known (l++[(a,b)]) x=(known l x || decide (a.data.toList=x.data.toList)):=by
 unfold known
 rw[List.any_append]
 simp
def decL:List Value→Option (DataW Unit×List MemPlace)
 | [.string k,.slice A n c]=>some (.lit (.string k.data.toList),[])
 |_=>none
def decR:Value→Option (DataW Unit×List MemPlace)
 |.agg cs=>decL cs.toList
 |_=>none
theorem decL_inv {l:List Value} {k:ByteArray} {ps:List MemPlace} (h:decL l=some (.lit (.string k.data.toList),ps)):∃A n c,l=[.string k,.slice A n c]:=by
 unfold decL at h
 split at h
 ·rename_i k' A n c
  injection h with h
  injection h with h _
  injection h with h
  injection h with h
  have:k' =k:=by
   cases k';cases k
   simp only at h
   congr 1
   exact Array.ext' h
  exact ⟨A,n,c,by rw[this]⟩
 ·cases h
theorem decR_inv {v:Value} {k:ByteArray} {ps:List MemPlace} (h:decR v=some (.lit (.string k.data.toList),ps)):∃A n c,v= .agg #[.string k,.slice A n c]:=by
 unfold decR at h
 split at h
 ·rename_i cs
  obtain ⟨A,n,c,he⟩:=decL_inv h
  exact ⟨A,n,c,congrArg Value.agg (Array.ext' he)⟩
 ·cases h
theorem keyed9:Maps.Keyed Tryz.prog 9:=Maps.string_keyed Tryz.underlying9
theorem zero178 (w:World):(zeroValue 178).run Tryz.prog w= .ok (.agg #[.string ⟨#[]⟩,.slice none 0 0]) w:=by kernel_rfl
def DeclAt (w:World) (mb:Nat) (l:Decls):Prop:=∃D:DataW Unit,w.ownsMap Tryz.prog 9 decR mb l.length D∧Maps.size D=l.length ∧
 ∀x:ByteArray,D.atKey (.string x.data.toList) (.lit (.string []))= .lit (.string (kindOf l x).data.toList)∧Maps.has D (.string x.data.toList)=known l x
section
variable {w w1:World} {mb:Nat} {l:Decls}
theorem DeclAt.step (h:DeclAt w mb l) (hm:w1.heap[mb]? =w.heap[mb]?):DeclAt w1 mb l:=by
 obtain ⟨D,⟨es,clock,hb,F,hs,hD⟩,h2,h3⟩:=h
 exact ⟨D,⟨es,clock,hm.trans hb,F,hs,hD⟩,h2,h3⟩
theorem DeclAt.lt (h:DeclAt w mb l):mb<w.heap.size:=by
 obtain ⟨D,h1,_⟩:=h
 exact h1.lt
theorem DeclAt.below (h:DeclAt w mb l) (hB:Below w.heap.size w w1):DeclAt w1 mb l:=h.step (hB.block mb h.lt)
theorem DeclAt.look (h:DeclAt w mb l) (x:ByteArray) (hx:x.size≤maxLen):∃A n c,(Instr.lookup 137 (.map (some mb)) (.string x) false).run Tryz.prog w= .ok (.agg #[.string (kindOf l x),.slice A n c]) w:=by
 obtain ⟨D,h1,_,h3⟩:=h
 obtain ⟨v,ps,hrun,hv⟩:=h1.lookup keyed9 Tryz.underlying137 (zero178 w) (zd:= .lit (.string [])) (zp:=[]) rfl (WideMaps.keyOf_string_mk Tryz.underlying9 hx)
 rw[(h3 x).1]at hv
 obtain ⟨A,n,c,rfl⟩:=decR_inv hv
 exact ⟨A,n,c,hrun⟩
theorem DeclAt.look_ok (h:DeclAt w mb l) (x:ByteArray) (hx:x.size≤maxLen):∃k A n c,(Instr.lookup 137 (.map (some mb)) (.string x) true).run Tryz.prog w= .ok (.tuple #[.agg #[.string k,.slice A n c],.bool (known l x)]) w:=by
 obtain ⟨D,h1,_,h3⟩:=h
 obtain ⟨v,ps,hrun,hv⟩:=h1.look_ok keyed9 Tryz.underlying137 (zero178 w) (zd:= .lit (.string [])) (zp:=[]) rfl (WideMaps.keyOf_string_mk Tryz.underlying9 hx)
 rw[(h3 x).1]at hv
 rw[(h3 x).2]at hrun
 obtain ⟨A,n,c,rfl⟩:=decR_inv hv
 exact ⟨_,A,n,c,hrun⟩
theorem DeclAt.len (h:DeclAt w mb l) (ty:TypeId):(Builtin.len_ #[137] ty #[.map (some mb)]).run Tryz.prog w= .ok (.int .i64 (l.length:Int)) w:=by
 obtain ⟨D,h1,h2,_⟩:=h
 rw[h1.len Tryz.underlying137 ty,h2]
theorem DeclAt.made (w:World):DeclAt (w.alloc (.map #[] 0)) w.heap.size []:=⟨.map [],World.ownsMap_made w Tryz.prog 9 decR,rfl,fun x=>⟨rfl,rfl⟩⟩
theorem DeclAt.store (h:DeclAt w mb l) (hn:l.length<1000000) (x k:ByteArray) (A:Option Addr) (n c:Nat) (hx:x.size≤maxLen) (hno:known l x=false) :
  ∃w',(Instr.mapUpdate 137 (.map (some mb)) (.string x) (.agg #[.string k,.slice A n c])).run Tryz.prog w= .ok () w' ∧DeclAt w' mb (l++[(x,k)])∧w.grownBy w' (some mb):=by
 obtain ⟨D,h1,h2,h3⟩:=h
 obtain ⟨w',hrun,hown,hg⟩:=h1.update keyed9 Tryz.underlying137 (by unfold maxLen;omega) (WideMaps.keyOf_string_mk Tryz.underlying9 hx) (show decR (.agg #[.string k,.slice A n c])=some (.lit (.string k.data.toList),[])from rfl)
 refine ⟨w',hrun,⟨D.put (.string x.data.toList) (.lit (.string k.data.toList)),?_,?_,fun y=> ?_⟩,hg⟩
 ·rw[List.length_append];exact hown
 ·rw[Maps.size_put (h1.tidy keyed9),(h3 x).2,hno,h2];simp
 ·rw[kindOf_snoc l x k y hno,known_snoc]
  by_cases he:x.data.toList=y.data.toList
  ·rw[if_pos he,he]
   exact ⟨Maps.atKey_put_same h1.isMap (by trivial) _ _,by rw[Maps.has_put_same h1.isMap (by trivial)];simp⟩
  ·have hne:(Lit.string y.data.toList)≠Lit.string x.data.toList:=by
    intro e;injection e with e;exact he e.symm
   rw[if_neg he,Maps.atKey_put_other hne,Maps.has_put_other hne]
   simp only[he,decide_false,Bool.or_false]
   exact h3 y
end
end
section
attribute [local go_sem] max2_int min2_int max_two min_two
set_option linter.unusedVariables false
set_option linter.unusedSimpArgs false
def signature_builtin.f (a0:ByteArray):Option (Bool):=if a0.toList=([116,105,109,101]:List UInt8)then (some true)else (some (a0.toList == ([110,117,109,98,101,114]:List UInt8)))
set_option maxHeartbeats 8000000 in
set_option maxRecDepth 100000 in
theorem signature_builtin.calls (a0:ByteArray) (r:Bool) (w:World) (h:signature_builtin.f a0=some r) :
  Calls Tryz.prog 116 #[.string a0] w fun e w' =>e= .returned (.bool r)∧Drawn0 w w' :=by
 have H:(if a0.toList=([116,105,109,101]:List UInt8)then (some true)else (some (a0.toList == ([110,117,109,98,101,114]:List UInt8))))=some r:=h
 clear h
 by_cases c2:a0.toList=([116,105,109,101]:List UInt8)
 ·rw[if_pos c2]at H
  have c2b0:(a0.toList == ([116,105,109,101]:List UInt8))=true:=beq_iff_eq.mpr c2
  have c2b1:(a0.toList != ([116,105,109,101]:List UInt8))=false:=bne_eq_false_iff_eq.mpr c2
  clear c2
  obtain rfl:=Option.some.inj H
  go_enter Tryz.func116,Tryz.ntmps116
  go_wp2
  go_ret
  exact ⟨by first | rfl | (simp;done) | (simp[*];done),by repeat (first | exact Drawn0.refl _ | apply Drawn0.step)⟩
 ·rw[if_neg c2]at H
  have c2b0:(a0.toList == ([116,105,109,101]:List UInt8))=false:=beq_eq_false_iff_ne.mpr c2
  have c2b1:(a0.toList != ([116,105,109,101]:List UInt8))=true:=bne_iff_ne.mpr c2
  obtain rfl:=Option.some.inj H
  go_enter Tryz.func116,Tryz.ntmps116
  go_wp2
  go_ret
  exact ⟨by first | rfl | (simp;done) | (simp[*];done),by repeat (first | exact Drawn0.refl _ | apply Drawn0.step)⟩
theorem bne_nil (l:List UInt8):(l != ([]:List UInt8))= !l.isEmpty:=by cases l<;>rfl
def signature_name.l0:Nat→ByteArray→Int→Int→Option (Bool)
 |0,_,_,_=>none
 |k+1,x0,x6,x7=>if x7<x6 then (if 0≤x7 then (if x7<(x0.size:Int)then (if (bt x0 x7)≥97 then (if ((bt x0 x7)≤122)then (signature_name.l0 k x0 x6 (wrap64 (x7+1)))else (if x7=0 then (some false)else (if (bt x0 x7)≥48 then (if ((bt x0 x7)≤57)then (signature_name.l0 k x0 x6 (wrap64 (x7+1)))else (if (bt x0 x7)=45 then (signature_name.l0 k x0 x6 (wrap64 (x7+1)))else (some false)))else (if (bt x0 x7)=45 then (signature_name.l0 k x0 x6 (wrap64 (x7+1)))else (some false)))))else (if x7=0 then (some false)else (if (bt x0 x7)≥48 then (if ((bt x0 x7)≤57)then (signature_name.l0 k x0 x6 (wrap64 (x7+1)))else (if (bt x0 x7)=45 then (signature_name.l0 k x0 x6 (wrap64 (x7+1)))else (some false)))else (if (bt x0 x7)=45 then (signature_name.l0 k x0 x6 (wrap64 (x7+1)))else (some false)))))else (none))else (none))else (some (x0.toList != ([]:List UInt8)))
def signature_name.f (k:Nat) (a0:ByteArray):Option (Bool):=signature_name.l0 k a0 (a0.size:Int) 0
set_option maxHeartbeats 8000000 in
set_option maxRecDepth 100000 in
theorem signature_name.calls (k:Nat) (a0:ByteArray) (r:Bool) (w:World) (h:signature_name.f k a0=some r) :
  Calls Tryz.prog 169 #[.string a0] w fun e w' =>e= .returned (.bool r)∧Drawn0 w w' :=by
 have H:(signature_name.l0 k a0 (a0.size:Int) 0)=some r:=h
 clear h
 have H' :=Aside0.mk H
 clear H
 go_enter Tryz.func169,Tryz.ntmps169
 go_wp2
 go_loopg [7] k (fun kq v7 w' =>∃(x7_1:Int),v7= .int .i64 x7_1∧Aside0 (signature_name.l0 kq a0 (a0.size:Int) x7_1=some r)∧Aside0 (kq≤k)∧Drawn0 w w')
 case atStart=>exact ⟨(0),(by first | rfl | (simp;done) | (simp[*];done)),H',⟨Nat.le_refl _⟩,by repeat (first | exact Drawn0.refl _ | apply Drawn0.step)⟩
 case round =>
  clear H'
  try clear c1
  obtain ⟨x7_1,rfl,HA,HK1,⟨m1,rfl⟩⟩:=hrel
  cases gk with
  |zero=>exact absurd HA.out (by simp[signature_name.l0])
  |succ k1 =>
   have H:=HA.out
   clear HA
   simp only[signature_name.l0]at H
   by_cases c2:x7_1<(a0.size:Int)
   ·rw[if_pos c2]at H
    have c2b0:decide (x7_1<(a0.size:Int))=true:=decide_eq_true c2
    clear c2
    by_cases c3:0≤x7_1
    ·rw[if_pos c3]at H
     have c3b0:decide (0≤x7_1)=true:=decide_eq_true c3
     clear c3
     by_cases c4:x7_1<(a0.size:Int)
     ·rw[if_pos c4]at H
      have c4b0:decide (x7_1<(a0.size:Int))=true:=decide_eq_true c4
      clear c4
      by_cases c6:(bt a0 x7_1)≥97
      ·rw[if_pos c6]at H
       have c6b0:decide (97≤(bt a0 x7_1))=true:=decide_eq_true c6
       clear c6
       by_cases c7:((bt a0 x7_1)≤122)
       ·rw[if_pos c7]at H
        have c7b0:decide ((bt a0 x7_1)≤122)=true:=decide_eq_true c7
        clear c7
        have H' :=Aside0.mk H
        clear H
        have p5:0≤(x7_1:Int):=of_decide_eq_true (by first | (with_reducible assumption) | assumption)
        have q5:x7_1<(a0.size:Int):=of_decide_eq_true (by first | (with_reducible assumption) | assumption)
        have hx5:=bt_at a0 x7_1
        replace p5:=eq_true p5
        replace q5:=eq_true q5
        go_wp2
        go_roundg k1
        case measure=>have:=HK1.out;omega
        case rel=>exact ⟨(wrap64 (x7_1+1)),(by first | rfl | (simp;done) | (simp[*];done)),H',⟨by have:=HK1.out;omega⟩,by repeat (first | exact Drawn0.refl _ | apply Drawn0.step)⟩
       ·rw[if_neg c7]at H
        have c7b0:decide ((bt a0 x7_1)≤122)=false:=decide_eq_false c7
        clear c7
        by_cases c8:x7_1=0
        ·rw[if_pos c8]at H
         have c8b0:(x7_1 == 0)=true:=beq_iff_eq.mpr c8
         have c8b1:(x7_1 != 0)=false:=bne_eq_false_iff_eq.mpr c8
         clear c8
         obtain rfl:=Option.some.inj H
         have p5:0≤(x7_1:Int):=of_decide_eq_true (by first | (with_reducible assumption) | assumption)
         have q5:x7_1<(a0.size:Int):=of_decide_eq_true (by first | (with_reducible assumption) | assumption)
         have hx5:=bt_at a0 x7_1
         replace p5:=eq_true p5
         replace q5:=eq_true q5
         go_wp2
         go_ret
         exact ⟨by first | rfl | (simp;done) | (simp[*];done),by repeat (first | exact Drawn0.refl _ | apply Drawn0.step)⟩
        ·rw[if_neg c8]at H
         have c8b0:(x7_1 == 0)=false:=beq_eq_false_iff_ne.mpr c8
         have c8b1:(x7_1 != 0)=true:=bne_iff_ne.mpr c8
         by_cases c9:(bt a0 x7_1)≥48
         ·rw[if_pos c9]at H
          have c9b0:decide (48≤(bt a0 x7_1))=true:=decide_eq_true c9
          clear c9
          by_cases c10:((bt a0 x7_1)≤57)
          ·rw[if_pos c10]at H
           have c10b0:decide ((bt a0 x7_1)≤57)=true:=decide_eq_true c10
           clear c10
           have H' :=Aside0.mk H
           clear H
           have p5:0≤(x7_1:Int):=of_decide_eq_true (by first | (with_reducible assumption) | assumption)
           have q5:x7_1<(a0.size:Int):=of_decide_eq_true (by first | (with_reducible assumption) | assumption)
           have hx5:=bt_at a0 x7_1
           replace p5:=eq_true p5
           replace q5:=eq_true q5
           go_wp2
           go_roundg k1
           case measure=>have:=HK1.out;omega
           case rel=>exact ⟨(wrap64 (x7_1+1)),(by first | rfl | (simp;done) | (simp[*];done)),H',⟨by have:=HK1.out;omega⟩,by repeat (first | exact Drawn0.refl _ | apply Drawn0.step)⟩
          ·rw[if_neg c10]at H
           have c10b0:decide ((bt a0 x7_1)≤57)=false:=decide_eq_false c10
           clear c10
           by_cases c11:(bt a0 x7_1)=45
           ·rw[if_pos c11]at H
            have c11b0:((bt a0 x7_1) == 45)=true:=beq_iff_eq.mpr c11
            have c11b1:((bt a0 x7_1) != 45)=false:=bne_eq_false_iff_eq.mpr c11
            clear c11
            have H' :=Aside0.mk H
            clear H
            have p5:0≤(x7_1:Int):=of_decide_eq_true (by first | (with_reducible assumption) | assumption)
            have q5:x7_1<(a0.size:Int):=of_decide_eq_true (by first | (with_reducible assumption) | assumption)
            have hx5:=bt_at a0 x7_1
            replace p5:=eq_true p5
            replace q5:=eq_true q5
            go_wp2
            go_roundg k1
            case measure=>have:=HK1.out;omega
            case rel=>exact ⟨(wrap64 (x7_1+1)),(by first | rfl | (simp;done) | (simp[*];done)),H',⟨by have:=HK1.out;omega⟩,by repeat (first | exact Drawn0.refl _ | apply Drawn0.step)⟩
           ·rw[if_neg c11]at H
            have c11b0:((bt a0 x7_1) == 45)=false:=beq_eq_false_iff_ne.mpr c11
            have c11b1:((bt a0 x7_1) != 45)=true:=bne_iff_ne.mpr c11
            obtain rfl:=Option.some.inj H
            have p5:0≤(x7_1:Int):=of_decide_eq_true (by first | (with_reducible assumption) | assumption)
            have q5:x7_1<(a0.size:Int):=of_decide_eq_true (by first | (with_reducible assumption) | assumption)
            have hx5:=bt_at a0 x7_1
            replace p5:=eq_true p5
            replace q5:=eq_true q5
            go_wp2
            go_ret
            exact ⟨by first | rfl | (simp;done) | (simp[*];done),by repeat (first | exact Drawn0.refl _ | apply Drawn0.step)⟩
         ·rw[if_neg c9]at H
          have c9b0:decide (48≤(bt a0 x7_1))=false:=decide_eq_false c9
          clear c9
          by_cases c12:(bt a0 x7_1)=45
          ·rw[if_pos c12]at H
           have c12b0:((bt a0 x7_1) == 45)=true:=beq_iff_eq.mpr c12
           have c12b1:((bt a0 x7_1) != 45)=false:=bne_eq_false_iff_eq.mpr c12
           clear c12
           have H' :=Aside0.mk H
           clear H
           have p5:0≤(x7_1:Int):=of_decide_eq_true (by first | (with_reducible assumption) | assumption)
           have q5:x7_1<(a0.size:Int):=of_decide_eq_true (by first | (with_reducible assumption) | assumption)
           have hx5:=bt_at a0 x7_1
           replace p5:=eq_true p5
           replace q5:=eq_true q5
           go_wp2
           go_roundg k1
           case measure=>have:=HK1.out;omega
           case rel=>exact ⟨(wrap64 (x7_1+1)),(by first | rfl | (simp;done) | (simp[*];done)),H',⟨by have:=HK1.out;omega⟩,by repeat (first | exact Drawn0.refl _ | apply Drawn0.step)⟩
          ·rw[if_neg c12]at H
           have c12b0:((bt a0 x7_1) == 45)=false:=beq_eq_false_iff_ne.mpr c12
           have c12b1:((bt a0 x7_1) != 45)=true:=bne_iff_ne.mpr c12
           obtain rfl:=Option.some.inj H
           have p5:0≤(x7_1:Int):=of_decide_eq_true (by first | (with_reducible assumption) | assumption)
           have q5:x7_1<(a0.size:Int):=of_decide_eq_true (by first | (with_reducible assumption) | assumption)
           have hx5:=bt_at a0 x7_1
           replace p5:=eq_true p5
           replace q5:=eq_true q5
           go_wp2
           go_ret
           exact ⟨by first | rfl | (simp;done) | (simp[*];done),by repeat (first | exact Drawn0.refl _ | apply Drawn0.step)⟩
      ·rw[if_neg c6]at H
       have c6b0:decide (97≤(bt a0 x7_1))=false:=decide_eq_false c6
       clear c6
       by_cases c13:x7_1=0
       ·rw[if_pos c13]at H
        have c13b0:(x7_1 == 0)=true:=beq_iff_eq.mpr c13
        have c13b1:(x7_1 != 0)=false:=bne_eq_false_iff_eq.mpr c13
        clear c13
        obtain rfl:=Option.some.inj H
        have p5:0≤(x7_1:Int):=of_decide_eq_true (by first | (with_reducible assumption) | assumption)
        have q5:x7_1<(a0.size:Int):=of_decide_eq_true (by first | (with_reducible assumption) | assumption)
        have hx5:=bt_at a0 x7_1
        replace p5:=eq_true p5
        replace q5:=eq_true q5
        go_wp2
        go_ret
        exact ⟨by first | rfl | (simp;done) | (simp[*];done),by repeat (first | exact Drawn0.refl _ | apply Drawn0.step)⟩
       ·rw[if_neg c13]at H
        have c13b0:(x7_1 == 0)=false:=beq_eq_false_iff_ne.mpr c13
        have c13b1:(x7_1 != 0)=true:=bne_iff_ne.mpr c13
        by_cases c14:(bt a0 x7_1)≥48
        ·rw[if_pos c14]at H
         have c14b0:decide (48≤(bt a0 x7_1))=true:=decide_eq_true c14
         clear c14
         by_cases c15:((bt a0 x7_1)≤57)
         ·rw[if_pos c15]at H
          have c15b0:decide ((bt a0 x7_1)≤57)=true:=decide_eq_true c15
          clear c15
          have H' :=Aside0.mk H
          clear H
          have p5:0≤(x7_1:Int):=of_decide_eq_true (by first | (with_reducible assumption) | assumption)
          have q5:x7_1<(a0.size:Int):=of_decide_eq_true (by first | (with_reducible assumption) | assumption)
          have hx5:=bt_at a0 x7_1
          replace p5:=eq_true p5
          replace q5:=eq_true q5
          go_wp2
          go_roundg k1
          case measure=>have:=HK1.out;omega
          case rel=>exact ⟨(wrap64 (x7_1+1)),(by first | rfl | (simp;done) | (simp[*];done)),H',⟨by have:=HK1.out;omega⟩,by repeat (first | exact Drawn0.refl _ | apply Drawn0.step)⟩
         ·rw[if_neg c15]at H
          have c15b0:decide ((bt a0 x7_1)≤57)=false:=decide_eq_false c15
          clear c15
          by_cases c16:(bt a0 x7_1)=45
          ·rw[if_pos c16]at H
           have c16b0:((bt a0 x7_1) == 45)=true:=beq_iff_eq.mpr c16
           have c16b1:((bt a0 x7_1) != 45)=false:=bne_eq_false_iff_eq.mpr c16
           clear c16
           have H' :=Aside0.mk H
           clear H
           have p5:0≤(x7_1:Int):=of_decide_eq_true (by first | (with_reducible assumption) | assumption)
           have q5:x7_1<(a0.size:Int):=of_decide_eq_true (by first | (with_reducible assumption) | assumption)
           have hx5:=bt_at a0 x7_1
           replace p5:=eq_true p5
           replace q5:=eq_true q5
           go_wp2
           go_roundg k1
           case measure=>have:=HK1.out;omega
           case rel=>exact ⟨(wrap64 (x7_1+1)),(by first | rfl | (simp;done) | (simp[*];done)),H',⟨by have:=HK1.out;omega⟩,by repeat (first | exact Drawn0.refl _ | apply Drawn0.step)⟩
          ·rw[if_neg c16]at H
           have c16b0:((bt a0 x7_1) == 45)=false:=beq_eq_false_iff_ne.mpr c16
           have c16b1:((bt a0 x7_1) != 45)=true:=bne_iff_ne.mpr c16
           obtain rfl:=Option.some.inj H
           have p5:0≤(x7_1:Int):=of_decide_eq_true (by first | (with_reducible assumption) | assumption)
           have q5:x7_1<(a0.size:Int):=of_decide_eq_true (by first | (with_reducible assumption) | assumption)
           have hx5:=bt_at a0 x7_1
           replace p5:=eq_true p5
           replace q5:=eq_true q5
           go_wp2
           go_ret
           exact ⟨by first | rfl | (simp;done) | (simp[*];done),by repeat (first | exact Drawn0.refl _ | apply Drawn0.step)⟩
        ·rw[if_neg c14]at H
         have c14b0:decide (48≤(bt a0 x7_1))=false:=decide_eq_false c14
         clear c14
         by_cases c17:(bt a0 x7_1)=45
         ·rw[if_pos c17]at H
          have c17b0:((bt a0 x7_1) == 45)=true:=beq_iff_eq.mpr c17
          have c17b1:((bt a0 x7_1) != 45)=false:=bne_eq_false_iff_eq.mpr c17
          clear c17
          have H' :=Aside0.mk H
          clear H
          have p5:0≤(x7_1:Int):=of_decide_eq_true (by first | (with_reducible assumption) | assumption)
          have q5:x7_1<(a0.size:Int):=of_decide_eq_true (by first | (with_reducible assumption) | assumption)
          have hx5:=bt_at a0 x7_1
          replace p5:=eq_true p5
          replace q5:=eq_true q5
          go_wp2
          go_roundg k1
          case measure=>have:=HK1.out;omega
          case rel=>exact ⟨(wrap64 (x7_1+1)),(by first | rfl | (simp;done) | (simp[*];done)),H',⟨by have:=HK1.out;omega⟩,by repeat (first | exact Drawn0.refl _ | apply Drawn0.step)⟩
         ·rw[if_neg c17]at H
          have c17b0:((bt a0 x7_1) == 45)=false:=beq_eq_false_iff_ne.mpr c17
          have c17b1:((bt a0 x7_1) != 45)=true:=bne_iff_ne.mpr c17
          obtain rfl:=Option.some.inj H
          have p5:0≤(x7_1:Int):=of_decide_eq_true (by first | (with_reducible assumption) | assumption)
          have q5:x7_1<(a0.size:Int):=of_decide_eq_true (by first | (with_reducible assumption) | assumption)
          have hx5:=bt_at a0 x7_1
          replace p5:=eq_true p5
          replace q5:=eq_true q5
          go_wp2
          go_ret
          exact ⟨by first | rfl | (simp;done) | (simp[*];done),by repeat (first | exact Drawn0.refl _ | apply Drawn0.step)⟩
     ·rw[if_neg c4]at H
      exact absurd H (by simp)
    ·rw[if_neg c3]at H
     exact absurd H (by simp)
   ·rw[if_neg c2]at H
    have c2b0:decide (x7_1<(a0.size:Int))=false:=decide_eq_false c2
    clear c2
    obtain rfl:=Option.some.inj H
    go_wp2
    go_ret
    exact ⟨congrArg Ending.returned (congrArg Value.bool (bne_nil a0.toList).symm),by repeat (first | exact Drawn0.refl _ | apply Drawn0.step)⟩
mutual
def abstract_Size.l0:Nat→Int→List (S30)→Int→Int→Option (Int)
 |0,_,_,_,_=>none
 |k+1,x3,x7,x8,x9=>if x9<x8 then (if 0≤x9 then (if x9<(x7.length:Int)then ((abstract_Size.f k ((rd_T30 x7 x9).f0) ((rd_T30 x7 x9).f1) ((rd_T30 x7 x9).f2)).bind fun t106=>(abstract_Size.l0 k (wrap64 (x3+t106)) x7 x8 (wrap64 (x9+1))))else (none))else (none))else (some x3)
def abstract_Size.f:Nat→ByteArray→List Int→List (S30)→Option (Int)
 |0,_,_,_=>none
 |k+1,a0_0,l0_1,l0_2=>abstract_Size.l0 k 1 l0_2 (l0_2.length:Int) 0
end
theorem abstract_Size.mono_l:∀k,(∀y0 y1 y2,LeO (abstract_Size.f k y0 y1 y2) (abstract_Size.f (k+1) y0 y1 y2))∧(∀y0 y1 y2 y3,LeO (abstract_Size.l0 k y0 y1 y2 y3) (abstract_Size.l0 (k+1) y0 y1 y2 y3))
 |0=>⟨fun _ _ _ r h=>by simp[abstract_Size.f]at h,fun _ _ _ _ r h=>by simp[abstract_Size.l0]at h⟩
 |k+1=>by
  obtain ⟨ih0,ih1⟩:=abstract_Size.mono_l k
  refine ⟨?_,?_⟩
  ·intro y0 y1 y2
   unfold abstract_Size.f
   repeat' first
   |(with_reducible exact ih0 _ _ _)
   |(with_reducible exact ih1 _ _ _ _)
   |(with_reducible exact LeO.refl _)
   |(with_reducible exact LeO.none _)
   |(with_reducible refine LeO.ite ?_ ?_)
   |(with_reducible refine LeO.bind ?_ (fun _=> ?_))
   |exact ih0 _ _ _
   |exact ih1 _ _ _ _
   |exact LeO.none _
   |refine LeO.ite ?_ ?_
   |refine LeO.bind ?_ (fun _=> ?_)
  ·intro y0 y1 y2 y3
   unfold abstract_Size.l0
   repeat' first
   |(with_reducible exact ih0 _ _ _)
   |(with_reducible exact ih1 _ _ _ _)
   |(with_reducible exact LeO.refl _)
   |(with_reducible exact LeO.none _)
   |(with_reducible refine LeO.ite ?_ ?_)
   |(with_reducible refine LeO.bind ?_ (fun _=> ?_))
   |exact ih0 _ _ _
   |exact ih1 _ _ _ _
   |exact LeO.none _
   |refine LeO.ite ?_ ?_
   |refine LeO.bind ?_ (fun _=> ?_)
set_option maxHeartbeats 8000000 in
set_option maxRecDepth 100000 in
theorem abstract_Size.calls (k:Nat):∀(a0_0:ByteArray) (A0_1:Option Addr) (c0_1:Nat) (l0_1:List Int) (A0_2:Option Addr) (c0_2:Nat) (l0_2:List (S30)) (r:Int) (w:World) (hr0_1:Kd.C (Kd.int .i64) w A0_1 l0_1.length l0_1) (hc0_1:l0_1.length≤c0_1) (hr0_2:Kd.C k30 w A0_2 l0_2.length l0_2) (hc0_2:l0_2.length≤c0_2) (h:abstract_Size.f k a0_0 l0_1 l0_2=some r),
  Calls Tryz.prog 77 #[.agg #[.string a0_0,.slice A0_1 l0_1.length c0_1,.slice A0_2 l0_2.length c0_2]] w fun e w' =>e= .returned (.int .i64 r)∧Below w.heap.size w w' :=by
 induction k using Nat.strongRecOn with
 |_ k ih =>
 intro a0_0 A0_1 c0_1 l0_1 A0_2 c0_2 l0_2 r w hr0_1 hc0_1 hr0_2 hc0_2 h
 cases k with
 |zero=>exact absurd h (by simp[abstract_Size.f])
 |succ k =>
 simp only[abstract_Size.f]at h
 have hu30:=Tryz.underlying30
 have HR0_1:=Aside0.mk hr0_1
 have HC0_1:=Aside0.mk hc0_1
 clear hr0_1 hc0_1
 have HR0_2:=Aside0.mk hr0_2
 have HC0_2:=Aside0.mk hc0_2
 clear hr0_2 hc0_2
 have HB:=Aside0.mk (Below.refl w.heap.size w)
 have H:(abstract_Size.l0 k 1 l0_2 (l0_2.length:Int) 0)=some r:=h
 clear h
 have H' :=Aside0.mk H
 clear H
 go_enter Tryz.func77,Tryz.ntmps77
 go_wp2_with (first | ((with_reducible refine gate_dst (N:=1) rfl ?_);refine box_event ?hg (N:=1) ?hd (cs:= #[.string a0_0,.slice A0_1 l0_1.length c0_1,.slice A0_2 l0_2.length c0_2]) (t:=30) ?hr ?_;(case hd=>rfl);(case hg=>rfl);(case hr=>first | (go_simp;done) | (go_simp;rfl));intro gb103 hg w2 hbox hb;have n0_:=Aside0.mk (below_step (by repeat (first | (with_reducible first | exact HB.out | apply below_alloc | apply pw_below_drewN | apply below_drew1) | exact HB.out)) hb);have n1_:=Aside0.mk (hbox);have n2_:=Aside0.mk ((by rw[hg];exact (below_size (by repeat (first | (with_reducible first | exact HB.out | apply below_alloc | apply pw_below_drewN | apply below_drew1) | exact HB.out))):w.heap.size≤gb103));have n3_:=Aside0.mk ((by rw[hg];exact (below_size (by repeat (first | (with_reducible first | exact HB.out | apply below_alloc | apply pw_below_drewN | apply below_drew1) | exact HB.out))):w.heap.size≤gb103));clear HB;have HB:=n0_;have BK103:=n1_;have GW103:=n2_;have GE103:=n3_;clear n0_ n1_ n2_ n3_;clear hb hbox hg;have hcz3_0:w2.cell? ⟨gb103,0,none⟩=some (.string a0_0):=(blk_cell BK103.out 0).trans rfl;have hcz3_1:w2.cell? ⟨gb103,1,none⟩=some (.slice A0_1 l0_1.length c0_1):=(blk_cell BK103.out 1).trans rfl;have hcz3_2:w2.cell? ⟨gb103,2,none⟩=some (.slice A0_2 l0_2.length c0_2):=(blk_cell BK103.out 2).trans rfl;have hfz3_0:=blk_frozen BK103.out 0;have hfz3_1:=blk_frozen BK103.out 1;have hfz3_2:=blk_frozen BK103.out 2))
 go_loopg [3,9] k (fun kq v3 v9 w' =>∃(x3_1:Int) (x9_1:Int),v3= .int .i64 x3_1∧v9= .int .i64 x9_1∧Aside0 (abstract_Size.l0 kq x3_1 l0_2 (l0_2.length:Int) x9_1=some r)∧Aside0 (kq≤k)∧Aside0 (w'.heap[gb103]? =some (.cells #[.string a0_0,(.slice A0_1 l0_1.length c0_1),(.slice A0_2 l0_2.length c0_2)] 30 (0,0)))∧Aside0 (Below w.heap.size w w'))
 case atStart=>exact ⟨(1),(0),(by first | rfl | (simp;done) | (simp[*];done)),(by first | rfl | (simp;done) | (simp[*];done)),H',⟨Nat.le_refl _⟩,⟨by (with_reducible repeat (first | refine blk_drewN ?_ _ | refine blk_drew ?_ | refine blk_alloc ?_ _));exact BK103.out⟩,⟨by repeat (first | (with_reducible first | exact HB.out | apply below_alloc | apply pw_below_drewN | apply below_drew1 | refine below_set ?_ GE103.out) | exact HB.out)⟩⟩
 case round =>
  clear H'
  try clear p2
  try clear hcz3_0
  try clear hcz3_1
  try clear hcz3_2
  try clear hfz3_0
  try clear hfz3_1
  try clear hfz3_2
  obtain ⟨x3_1,x9_1,rfl,rfl,HA,HK1,BK103,HB⟩:=hrel
  cases gk with
  |zero=>exact absurd HA.out (by simp[abstract_Size.l0])
  |succ k1 =>
   have H:=HA.out
   clear HA
   simp only[abstract_Size.l0]at H
   by_cases c4:x9_1<(l0_2.length:Int)
   ·rw[if_pos c4]at H
    have c4b0:decide (x9_1<(l0_2.length:Int))=true:=decide_eq_true c4
    clear c4
    by_cases c5:0≤x9_1
    ·rw[if_pos c5]at H
     have c5b0:decide (0≤x9_1)=true:=decide_eq_true c5
     clear c5
     by_cases c6:x9_1<(l0_2.length:Int)
     ·rw[if_pos c6]at H
      have c6b0:decide (x9_1<(l0_2.length:Int))=true:=decide_eq_true c6
      clear c6
      replace H:=Option.bind_eq_some_iff.mp H
      obtain ⟨t106,A70,H⟩:=H
      replace H:(abstract_Size.l0 k1 (wrap64 (x3_1+t106)) l0_2 (l0_2.length:Int) (wrap64 (x9_1+1)))=some r:=H
      have A7:=Aside0.mk A70
      clear A70
      have H' :=Aside0.mk H
      clear H
      have p104:0≤(x9_1:Int):=of_decide_eq_true (by first | (with_reducible assumption) | assumption)
      have q104:x9_1<(l0_2.length:Int):=of_decide_eq_true (by first | (with_reducible assumption) | assumption)
      obtain ⟨ad104,A104_1,c104_1,A104_2,c104_2,e104,hx104_0,hx104_1,hx104_2,hl104_1,hi104_1,hl104_2,hi104_2⟩:=at_T30 HR0_2.out x9_1 p104 q104
      cases e104
      replace hx104_0:=(HB.out.cell (World.block_lt_of_cell? w _ hx104_0)).trans hx104_0
      replace hx104_1:=(HB.out.cell (World.block_lt_of_cell? w _ hx104_1)).trans hx104_1
      replace hx104_2:=(HB.out.cell (World.block_lt_of_cell? w _ hx104_2)).trans hx104_2
      have HR104_1:=Aside0.mk hi104_1
      have HC104_1:=Aside0.mk hl104_1
      clear hi104_1 hl104_1
      have HR104_2:=Aside0.mk hi104_2
      have HC104_2:=Aside0.mk hl104_2
      clear hi104_2 hl104_2
      replace p104:=eq_true p104
      replace q104:=eq_true q104
      go_wp2_with (first | ((with_reducible refine gate_dst (N:=5) rfl ?_);refine box_event ?hg (N:=5) ?hd (cs:= #[.string (⟨#[]⟩:ByteArray),.slice none 0 0,.slice none 0 0]) (t:=30) ?hr ?_;(case hd=>rfl);(case hg=>rfl);(case hr=>first | (go_simp;done) | (go_simp;rfl));intro gb105 hg w8 hbox hb;have n0_:=Aside0.mk (blk_below (g:=gb103) (o:= .cells #[.string a0_0,.slice A0_1 l0_1.length c0_1,.slice (some ad104) l0_2.length c0_2] 30 (0,0)) (by (with_reducible repeat (first | refine blk_drewN ?_ _ | refine blk_drew ?_ | refine blk_alloc ?_ _));exact BK103.out) hb);have n1_:=Aside0.mk (below_step (by repeat (first | (with_reducible first | exact HB.out | apply below_alloc | apply pw_below_drewN | apply below_drew1 | refine below_set ?_ GE103.out) | exact HB.out)) hb);have n2_:=Aside0.mk (hbox);have n3_:=Aside0.mk ((by rw[hg];exact (below_size (by repeat (first | (with_reducible first | exact HB.out | apply below_alloc | apply pw_below_drewN | apply below_drew1 | refine below_set ?_ GE103.out) | exact HB.out))):w.heap.size≤gb105));have n4_:=Aside0.mk ((by rw[hg];exact (below_size (by repeat (first | (with_reducible first | exact HB.out | apply below_alloc | apply pw_below_drewN | apply below_drew1 | refine below_set ?_ GE103.out) | exact HB.out))):w.heap.size≤gb105));have n5_:=Aside0.mk ((by rw[hg];exact Nat.ne_of_lt (blk_lt (g:=gb103) (o:= .cells #[.string a0_0,.slice A0_1 l0_1.length c0_1,.slice (some ad104) l0_2.length c0_2] 30 (0,0)) (by (with_reducible repeat (first | refine blk_drewN ?_ _ | refine blk_drew ?_ | refine blk_alloc ?_ _));exact BK103.out)):gb103≠gb105));have n6_:=Aside0.mk ((by rw[hg];exact Nat.ne_of_gt (blk_lt (g:=gb103) (o:= .cells #[.string a0_0,.slice A0_1 l0_1.length c0_1,.slice (some ad104) l0_2.length c0_2] 30 (0,0)) (by (with_reducible repeat (first | refine blk_drewN ?_ _ | refine blk_drew ?_ | refine blk_alloc ?_ _));exact BK103.out)):gb105≠gb103));clear BK103;clear HB;have BK103:=n0_;have HB:=n1_;have BK105:=n2_;have GW105:=n3_;have GE105:=n4_;have NB103_105:=n5_;have NB105_103:=n6_;clear n0_ n1_ n2_ n3_ n4_ n5_ n6_;clear hb hbox hg;have hnb9:=NB105_103.out;have hnc9:=NB103_105.out;have hcz10_0:w8.cell? ⟨gb105,0,none⟩=some (.string (⟨#[]⟩:ByteArray)):=(blk_cell BK105.out 0).trans rfl;have hcz10_1:w8.cell? ⟨gb105,1,none⟩=some (.slice none 0 0):=(blk_cell BK105.out 1).trans rfl;have hcz10_2:w8.cell? ⟨gb105,2,none⟩=some (.slice none 0 0):=(blk_cell BK105.out 2).trans rfl;have hfz10_0:=blk_frozen BK105.out 0;have hfz10_1:=blk_frozen BK105.out 1;have hfz10_2:=blk_frozen BK105.out 2) | ((with_reducible refine gate_callee (f:=77) rfl ?_);refine goesL_ (some 15) rfl rfl Tryz.func77 (by kernel_rfl) rfl #[.agg #[.string ((rd_T30 l0_2 x9_1).f0),.slice A104_1 ((rd_T30 l0_2 x9_1).f1).length c104_1,.slice A104_2 ((rd_T30 l0_2 x9_1).f2).length c104_2]] rfl (by (try simp only[List.map_toArray,List.map_cons,List.map_nil]);first | done | rfl | (simp only[List.length_drop,List.length_take];rfl)) ?_;(with_reducible refine (ih k1 (by have:=HK1.out;omega) ((rd_T30 l0_2 x9_1).f0) _ _ ((rd_T30 l0_2 x9_1).f1) _ _ ((rd_T30 l0_2 x9_1).f2) t106 _ ?side1 ?side2 ?side3 ?side4 A7.out).mono ?_);(case side1=>exact Kd.C_below HR104_1.out (by repeat (first | (with_reducible first | exact HB.out | apply below_alloc | apply pw_below_drewN | apply below_drew1 | refine below_set ?_ GE103.out | refine below_set ?_ GE105.out) | exact HB.out)));(case side2=>exact HC104_1.out);(case side3=>exact Kd.C_below HR104_2.out (by repeat (first | (with_reducible first | exact HB.out | apply below_alloc | apply pw_below_drewN | apply below_drew1 | refine below_set ?_ GE103.out | refine below_set ?_ GE105.out) | exact HB.out)));(case side4=>exact HC104_2.out);rintro e w11 ⟨rfl,hb⟩;refine ⟨_,rfl,?_⟩;have n0_:=Aside0.mk (blk_below (g:=gb103) (o:= .cells #[.string a0_0,.slice A0_1 l0_1.length c0_1,.slice (some ad104) l0_2.length c0_2] 30 (0,0)) (by (with_reducible repeat (first | refine blk_drewN ?_ _ | refine blk_drew ?_ | refine blk_alloc ?_ _));refine blk_far ?_ NB103_105.out _;(with_reducible repeat (first | refine blk_drewN ?_ _ | refine blk_drew ?_ | refine blk_alloc ?_ _));refine blk_far ?_ NB103_105.out _;(with_reducible repeat (first | refine blk_drewN ?_ _ | refine blk_drew ?_ | refine blk_alloc ?_ _));refine blk_far ?_ NB103_105.out _;(with_reducible repeat (first | refine blk_drewN ?_ _ | refine blk_drew ?_ | refine blk_alloc ?_ _));exact BK103.out) hb);have n1_:=Aside0.mk (blk_below (g:=gb105) (o:= .cells #[.string ((rd_T30 l0_2 x9_1).f0),.slice A104_1 ((rd_T30 l0_2 x9_1).f1).length c104_1,.slice A104_2 ((rd_T30 l0_2 x9_1).f2).length c104_2] 30 (0,0)) (by (with_reducible repeat (first | refine blk_drewN ?_ _ | refine blk_drew ?_ | refine blk_alloc ?_ _));refine blk_put (cs:= #[.string ((rd_T30 l0_2 x9_1).f0),.slice A104_1 ((rd_T30 l0_2 x9_1).f1).length c104_1,.slice none 0 0]) ?_ 2 _ rfl;(with_reducible repeat (first | refine blk_drewN ?_ _ | refine blk_drew ?_ | refine blk_alloc ?_ _));refine blk_put (cs:= #[.string ((rd_T30 l0_2 x9_1).f0),.slice none 0 0,.slice none 0 0]) ?_ 1 _ rfl;(with_reducible repeat (first | refine blk_drewN ?_ _ | refine blk_drew ?_ | refine blk_alloc ?_ _));refine blk_put (cs:= #[.string (⟨#[]⟩:ByteArray),.slice none 0 0,.slice none 0 0]) ?_ 0 _ rfl;(with_reducible repeat (first | refine blk_drewN ?_ _ | refine blk_drew ?_ | refine blk_alloc ?_ _));exact BK105.out) hb);have n2_:=Aside0.mk (below_step (by repeat (first | (with_reducible first | exact HB.out | apply below_alloc | apply pw_below_drewN | apply below_drew1 | refine below_set ?_ GE103.out | refine below_set ?_ GE105.out) | exact HB.out)) hb);clear BK103;clear BK105;clear HB;have BK103:=n0_;have BK105:=n1_;have HB:=n2_;clear n0_ n1_ n2_;(try clear hb);(try clear hb2);(try clear hk);(try clear hi)))
      go_roundg k1
      case measure=>have:=HK1.out;omega
      case rel=>exact ⟨(wrap64 (x3_1+t106)),(wrap64 (x9_1+1)),(by first | rfl | (simp;done) | (simp[*];done)),(by first | rfl | (simp;done) | (simp[*];done)),H',⟨by have:=HK1.out;omega⟩,⟨by (with_reducible repeat (first | refine blk_drewN ?_ _ | refine blk_drew ?_ | refine blk_alloc ?_ _));exact BK103.out⟩,⟨by repeat (first | (with_reducible first | exact HB.out | apply below_alloc | apply pw_below_drewN | apply below_drew1 | refine below_set ?_ GE103.out | refine below_set ?_ GE105.out) | exact HB.out)⟩⟩
     ·rw[if_neg c6]at H
      exact absurd H (by simp)
    ·rw[if_neg c5]at H
     exact absurd H (by simp)
   ·rw[if_neg c4]at H
    have c4b0:decide (x9_1<(l0_2.length:Int))=false:=decide_eq_false c4
    clear c4
    obtain rfl:=Option.some.inj H
    go_wp2
    go_ret
    exact ⟨by first | rfl | (simp[errW_none,errW_some]<;>rfl) | (simp[*,errW_none,errW_some]<;>rfl),by repeat (first | (with_reducible first | exact HB.out | apply below_alloc | apply pw_below_drewN | apply below_drew1 | refine below_set ?_ GE103.out) | exact HB.out)⟩
def formula_keyword.f (a0:Int):Option (ByteArray):=if a0=1 then (some (⟨#[84,82,85,69]⟩:ByteArray))else (if a0=2 then (some (⟨#[70,65,76,83,69]⟩:ByteArray))else (if a0=4 then (some (⟨#[78,79,84]⟩:ByteArray))else (if a0=5 then (some (⟨#[65,78,68]⟩:ByteArray))else (if a0=6 then (some (⟨#[79,82]⟩:ByteArray))else (if a0=7 then (some (⟨#[73,77,80,76,73,69,83]⟩:ByteArray))else (if a0=8 then (some (⟨#[65,76,76]⟩:ByteArray))else (if a0=9 then (some (⟨#[83,79,77,69]⟩:ByteArray))else (if a0=10 then (some (⟨#[68,85,82,73,78,71]⟩:ByteArray))else (if a0=11 then (some (⟨#[79,66,76,73,71,69,68]⟩:ByteArray))else (if a0=12 then (some (⟨#[80,69,82,77,73,84,84,69,68]⟩:ByteArray))else (some (⟨#[]⟩:ByteArray))))))))))))
set_option maxHeartbeats 8000000 in
set_option maxRecDepth 100000 in
theorem formula_keyword.calls (a0:Int) (r:ByteArray) (w:World) (h:formula_keyword.f a0=some r) :
  Calls Tryz.prog 123 #[.int .i64 a0] w fun e w' =>e= .returned (.string r)∧Drawn0 w w' :=by
 have H:(if a0=1 then (some (⟨#[84,82,85,69]⟩:ByteArray))else (if a0=2 then (some (⟨#[70,65,76,83,69]⟩:ByteArray))else (if a0=4 then (some (⟨#[78,79,84]⟩:ByteArray))else (if a0=5 then (some (⟨#[65,78,68]⟩:ByteArray))else (if a0=6 then (some (⟨#[79,82]⟩:ByteArray))else (if a0=7 then (some (⟨#[73,77,80,76,73,69,83]⟩:ByteArray))else (if a0=8 then (some (⟨#[65,76,76]⟩:ByteArray))else (if a0=9 then (some (⟨#[83,79,77,69]⟩:ByteArray))else (if a0=10 then (some (⟨#[68,85,82,73,78,71]⟩:ByteArray))else (if a0=11 then (some (⟨#[79,66,76,73,71,69,68]⟩:ByteArray))else (if a0=12 then (some (⟨#[80,69,82,77,73,84,84,69,68]⟩:ByteArray))else (some (⟨#[]⟩:ByteArray)))))))))))))=some r:=h
 clear h
 by_cases c2:a0=1
 ·rw[if_pos c2]at H
  have c2b0:(a0 == 1)=true:=beq_iff_eq.mpr c2
  have c2b1:(a0 != 1)=false:=bne_eq_false_iff_eq.mpr c2
  clear c2
  obtain rfl:=Option.some.inj H
  go_enter Tryz.func123,Tryz.ntmps123
  go_wp2
  go_ret
  exact ⟨by first | rfl | (simp;done) | (simp[*];done),by repeat (first | exact Drawn0.refl _ | apply Drawn0.step)⟩
 ·rw[if_neg c2]at H
  have c2b0:(a0 == 1)=false:=beq_eq_false_iff_ne.mpr c2
  have c2b1:(a0 != 1)=true:=bne_iff_ne.mpr c2
  by_cases c3:a0=2
  ·rw[if_pos c3]at H
   have c3b0:(a0 == 2)=true:=beq_iff_eq.mpr c3
   have c3b1:(a0 != 2)=false:=bne_eq_false_iff_eq.mpr c3
   clear c3
   obtain rfl:=Option.some.inj H
   go_enter Tryz.func123,Tryz.ntmps123
   go_wp2
   go_ret
   exact ⟨by first | rfl | (simp;done) | (simp[*];done),by repeat (first | exact Drawn0.refl _ | apply Drawn0.step)⟩
  ·rw[if_neg c3]at H
   have c3b0:(a0 == 2)=false:=beq_eq_false_iff_ne.mpr c3
   have c3b1:(a0 != 2)=true:=bne_iff_ne.mpr c3
   by_cases c4:a0=4
   ·rw[if_pos c4]at H
    have c4b0:(a0 == 4)=true:=beq_iff_eq.mpr c4
    have c4b1:(a0 != 4)=false:=bne_eq_false_iff_eq.mpr c4
    clear c4
    obtain rfl:=Option.some.inj H
    go_enter Tryz.func123,Tryz.ntmps123
    go_wp2
    go_ret
    exact ⟨by first | rfl | (simp;done) | (simp[*];done),by repeat (first | exact Drawn0.refl _ | apply Drawn0.step)⟩
   ·rw[if_neg c4]at H
    have c4b0:(a0 == 4)=false:=beq_eq_false_iff_ne.mpr c4
    have c4b1:(a0 != 4)=true:=bne_iff_ne.mpr c4
    by_cases c5:a0=5
    ·rw[if_pos c5]at H
     have c5b0:(a0 == 5)=true:=beq_iff_eq.mpr c5
     have c5b1:(a0 != 5)=false:=bne_eq_false_iff_eq.mpr c5
     clear c5
     obtain rfl:=Option.some.inj H
     go_enter Tryz.func123,Tryz.ntmps123
     go_wp2
     go_ret
     exact ⟨by first | rfl | (simp;done) | (simp[*];done),by repeat (first | exact Drawn0.refl _ | apply Drawn0.step)⟩
    ·rw[if_neg c5]at H
     have c5b0:(a0 == 5)=false:=beq_eq_false_iff_ne.mpr c5
     have c5b1:(a0 != 5)=true:=bne_iff_ne.mpr c5
     by_cases c6:a0=6
     ·rw[if_pos c6]at H
      have c6b0:(a0 == 6)=true:=beq_iff_eq.mpr c6
      have c6b1:(a0 != 6)=false:=bne_eq_false_iff_eq.mpr c6
      clear c6
      obtain rfl:=Option.some.inj H
      go_enter Tryz.func123,Tryz.ntmps123
      go_wp2
      go_ret
      exact ⟨by first | rfl | (simp;done) | (simp[*];done),by repeat (first | exact Drawn0.refl _ | apply Drawn0.step)⟩
     ·rw[if_neg c6]at H
      have c6b0:(a0 == 6)=false:=beq_eq_false_iff_ne.mpr c6
      have c6b1:(a0 != 6)=true:=bne_iff_ne.mpr c6
      by_cases c7:a0=7
      ·rw[if_pos c7]at H
       have c7b0:(a0 == 7)=true:=beq_iff_eq.mpr c7
       have c7b1:(a0 != 7)=false:=bne_eq_false_iff_eq.mpr c7
       clear c7
       obtain rfl:=Option.some.inj H
       go_enter Tryz.func123,Tryz.ntmps123
       go_wp2
       go_ret
       exact ⟨by first | rfl | (simp;done) | (simp[*];done),by repeat (first | exact Drawn0.refl _ | apply Drawn0.step)⟩
      ·rw[if_neg c7]at H
       have c7b0:(a0 == 7)=false:=beq_eq_false_iff_ne.mpr c7
       have c7b1:(a0 != 7)=true:=bne_iff_ne.mpr c7
       by_cases c8:a0=8
       ·rw[if_pos c8]at H
        have c8b0:(a0 == 8)=true:=beq_iff_eq.mpr c8
        have c8b1:(a0 != 8)=false:=bne_eq_false_iff_eq.mpr c8
        clear c8
        obtain rfl:=Option.some.inj H
        go_enter Tryz.func123,Tryz.ntmps123
        go_wp2
        go_ret
        exact ⟨by first | rfl | (simp;done) | (simp[*];done),by repeat (first | exact Drawn0.refl _ | apply Drawn0.step)⟩
       ·rw[if_neg c8]at H
        have c8b0:(a0 == 8)=false:=beq_eq_false_iff_ne.mpr c8
        have c8b1:(a0 != 8)=true:=bne_iff_ne.mpr c8
        by_cases c9:a0=9
        ·rw[if_pos c9]at H
         have c9b0:(a0 == 9)=true:=beq_iff_eq.mpr c9
         have c9b1:(a0 != 9)=false:=bne_eq_false_iff_eq.mpr c9
         clear c9
         obtain rfl:=Option.some.inj H
         go_enter Tryz.func123,Tryz.ntmps123
         go_wp2
         go_ret
         exact ⟨by first | rfl | (simp;done) | (simp[*];done),by repeat (first | exact Drawn0.refl _ | apply Drawn0.step)⟩
        ·rw[if_neg c9]at H
         have c9b0:(a0 == 9)=false:=beq_eq_false_iff_ne.mpr c9
         have c9b1:(a0 != 9)=true:=bne_iff_ne.mpr c9
         by_cases c10:a0=10
         ·rw[if_pos c10]at H
          have c10b0:(a0 == 10)=true:=beq_iff_eq.mpr c10
          have c10b1:(a0 != 10)=false:=bne_eq_false_iff_eq.mpr c10
          clear c10
          obtain rfl:=Option.some.inj H
          go_enter Tryz.func123,Tryz.ntmps123
          go_wp2
          go_ret
          exact ⟨by first | rfl | (simp;done) | (simp[*];done),by repeat (first | exact Drawn0.refl _ | apply Drawn0.step)⟩
         ·rw[if_neg c10]at H
          have c10b0:(a0 == 10)=false:=beq_eq_false_iff_ne.mpr c10
          have c10b1:(a0 != 10)=true:=bne_iff_ne.mpr c10
          by_cases c11:a0=11
          ·rw[if_pos c11]at H
           have c11b0:(a0 == 11)=true:=beq_iff_eq.mpr c11
           have c11b1:(a0 != 11)=false:=bne_eq_false_iff_eq.mpr c11
           clear c11
           obtain rfl:=Option.some.inj H
           go_enter Tryz.func123,Tryz.ntmps123
           go_wp2
           go_ret
           exact ⟨by first | rfl | (simp;done) | (simp[*];done),by repeat (first | exact Drawn0.refl _ | apply Drawn0.step)⟩
          ·rw[if_neg c11]at H
           have c11b0:(a0 == 11)=false:=beq_eq_false_iff_ne.mpr c11
           have c11b1:(a0 != 11)=true:=bne_iff_ne.mpr c11
           by_cases c12:a0=12
           ·rw[if_pos c12]at H
            have c12b0:(a0 == 12)=true:=beq_iff_eq.mpr c12
            have c12b1:(a0 != 12)=false:=bne_eq_false_iff_eq.mpr c12
            clear c12
            obtain rfl:=Option.some.inj H
            go_enter Tryz.func123,Tryz.ntmps123
            go_wp2
            go_ret
            exact ⟨by first | rfl | (simp;done) | (simp[*];done),by repeat (first | exact Drawn0.refl _ | apply Drawn0.step)⟩
           ·rw[if_neg c12]at H
            have c12b0:(a0 == 12)=false:=beq_eq_false_iff_ne.mpr c12
            have c12b1:(a0 != 12)=true:=bne_iff_ne.mpr c12
            obtain rfl:=Option.some.inj H
            go_enter Tryz.func123,Tryz.ntmps123
            go_wp2
            go_ret
            exact ⟨by first | rfl | (simp;done) | (simp[*];done),by repeat (first | exact Drawn0.refl _ | apply Drawn0.step)⟩
end
def nameFrom (x:ByteArray):Nat→Int→Bool
 |0,_=>true
 |n+1,i=>if bt x i≥97∧bt x i≤122 then nameFrom x n (i+1)else if i=0 then false else if (bt x i≥48∧bt x i≤57)∨bt x i=45 then nameFrom x n (i+1)else false
def nameS (x:ByteArray):Bool:=nameFrom x x.size 0 && (x.toList != ([]:List UInt8))
theorem name_ev (x:ByteArray) (hx:x.size≤2000000):∀(n:Nat) (i:Int),0≤i→i+n=x.size→Ev (fun k=>signature_name.l0 k x (x.size:Int) i) (nameFrom x n i && (x.toList != ([]:List UInt8)))
 |0,i,h0,hi=>by
  refine Ev.step (f:=fun _=>some (x.toList != ([]:List UInt8))) (fun k=> ?_) (by simpa[nameFrom]using Ev.now _)
  rw[signature_name.l0,if_neg (by omega)]
 |n+1,i,h0,hi=>by
  have ih:=name_ev x hx n (i+1) (by omega) (by omega)
  have hw:wrap64 (i+1)=i+1:=wrap_small (by omega) (by omega)
  refine Ev.step (fun k=>by rw[signature_name.l0,if_pos (by omega),if_pos (by omega),if_pos (by omega),hw]) ?_
  rw[nameFrom]
  by_cases h1:bt x i≥97
  ·by_cases h2:bt x i≤122
   ·rw[if_pos ⟨h1,h2⟩]
    exact Ev.congr (fun k=>by rw[if_pos h1,if_pos h2]) ih
   ·rw[if_neg (fun h=>h2 h.2)]
    by_cases h3:i=0
    ·rw[if_pos h3]
     rw[Bool.false_and]
     exact Ev.congr (fun k=>by rw[if_pos h1,if_neg h2,if_pos h3]) (Ev.now false)
    ·rw[if_neg h3]
     have h5:¬bt x i≤57:=by omega
     have h6:¬bt x i=45:=by omega
     rw[if_neg (by omega)]
     rw[Bool.false_and]
     exact Ev.congr (fun k=>by rw[if_pos h1,if_neg h2,if_neg h3,if_pos (by omega),if_neg h5,if_neg h6]) (Ev.now false)
  ·rw[if_neg (fun h=>h1 h.1)]
   by_cases h3:i=0
   ·rw[if_pos h3]
    rw[Bool.false_and]
    exact Ev.congr (fun k=>by rw[if_neg h1,if_pos h3]) (Ev.now false)
   ·rw[if_neg h3]
    by_cases h4:bt x i≥48
    ·by_cases h5:bt x i≤57
     ·rw[if_pos (.inl ⟨h4,h5⟩)]
      exact Ev.congr (fun k=>by rw[if_neg h1,if_neg h3,if_pos h4,if_pos h5]) ih
     ·rw[if_neg (by omega)]
      rw[Bool.false_and]
      exact Ev.congr (fun k=>by rw[if_neg h1,if_neg h3,if_pos h4,if_neg h5,if_neg (by omega)]) (Ev.now false)
    ·by_cases h6:bt x i=45
     ·rw[if_pos (.inr h6)]
      exact Ev.congr (fun k=>by rw[if_neg h1,if_neg h3,if_neg h4,if_pos h6]) ih
     ·rw[if_neg (by omega)]
      rw[Bool.false_and]
      exact Ev.congr (fun k=>by rw[if_neg h1,if_neg h3,if_neg h4,if_neg h6]) (Ev.now false)
theorem name_calls (x:ByteArray) (w:World) (hx:x.size≤2000000):Calls Tryz.prog 169 #[.string x] w fun e w' =>e= .returned (.bool (nameS x))∧Drawn0 w w' :=by
 obtain ⟨k,hk⟩:=(name_ev x hx x.size 0 (Int.le_refl _) (by omega)).rounds
 exact signature_name.calls k x (nameS x) w hk
def builtinS (x:ByteArray):Bool:=decide (x.toList=([116,105,109,101]:List UInt8)) || (x.toList == ([110,117,109,98,101,114]:List UInt8))
theorem builtin_calls (x:ByteArray) (w:World):Calls Tryz.prog 116 #[.string x] w fun e w' =>e= .returned (.bool (builtinS x))∧Drawn0 w w' :=by
 refine signature_builtin.calls x (builtinS x) w ?_
 unfold signature_builtin.f builtinS
 by_cases h:x.toList=([116,105,109,101]:List UInt8)
 ·rw[if_pos h];simp[h]
 ·rw[if_neg h];simp[h]
section
def sSort:ByteArray:=⟨#[115,111,114,116]⟩
def sConst:ByteArray:=⟨#[99,111,110,115,116,97,110,116]⟩
def sPred:ByteArray:=⟨#[112,114,101,100,105,99,97,116,101]⟩
def headOk (l:Decls) (sym:ByteArray):Bool:= !known l sym && nameS sym && !builtinS sym && decide (l.length≠256)
def sortOk (l:Decls) (kind x:ByteArray):Bool:=((kindOf l x).toList == ([115,111,114,116]:List UInt8)) || (!(kind.toList == ([99,111,110,115,116,97,110,116]:List UInt8)) && builtinS x)
def tailOk (kind:ByteArray) (n:Nat):Bool:= !(kind.toList == ([112,114,101,100,105,99,97,116,101]:List UInt8)) || (decide (1≤n) && decide (n≤3))
def declOk (l:Decls) (sym kind:ByteArray) (sorts:List ByteArray):Bool:=headOk l sym && sorts.all (sortOk l kind) && tailOk kind sorts.length
section
variable {w:World} {mb:Nat} {l:Decls}
set_option maxHeartbeats 1000000 in
set_option maxRecDepth 100000 in
theorem declare_head (h:DeclAt w mb l) (sym kind:ByteArray) (A:Option Addr) (n c:Nat) (hsym:sym.size≤2000000) (hl:l.length≤256) (hno:headOk l sym=false) :
  Calls Tryz.prog 150 #[.map (some mb),.string sym,.agg #[.string kind,.slice A n c]] w fun e w' =>e= .returned (.bool false)∧Below w.heap.size w w' :=by
 have hB1:=below_alloc (Below.refl w.heap.size w) (.cells #[.string kind,.slice A n c] 178)
 have hD1:=h.below hB1
 obtain ⟨k0,A0,n0,c0,hlk⟩:=hD1.look_ok sym (by unfold maxLen;omega)
 have HB2:=Aside0.mk (fun (o:Obj)=>below_alloc hB1 o)
 have HD2:=Aside0.mk (fun (o:Obj)=>hD1.below (below_alloc (Below.refl _ _) o))
 have CN:=Aside0.mk (fun (W:World)=>name_calls sym W hsym)
 have CB:=Aside0.mk (fun (W:World)=>builtin_calls sym W)
 clear h hD1
 cases hk:known l sym with
 |true =>
  rw[hk]at hlk
  clear hk hno
  go_enter Tryz.func150,Tryz.ntmps150
  go_wp2
  go_ret
  exact ⟨rfl,HB2.out _⟩
 |false =>
  rw[hk]at hlk
  cases hn:nameS sym with
  |false =>
   rw[hn]at CN
   clear hk hno hn
   go_enter Tryz.func150,Tryz.ntmps150
   go_wp2_with (go_at_call 169;refine (CN.out _).mono ?_;rintro e w1 ⟨rfl,⟨m1,rfl⟩⟩)
   go_ret
   exact ⟨rfl,pw_below_drewN (HB2.out _) _⟩
  |true =>
   rw[hn]at CN
   cases hb:builtinS sym with
   |true =>
    rw[hb]at CB
    clear hk hno hn hb
    go_enter Tryz.func150,Tryz.ntmps150
    go_wp2_with (first
     |(go_at_call 169;refine (CN.out _).mono ?_;rintro e w1 ⟨rfl,⟨m1,rfl⟩⟩)
     |(go_at_call 116;refine (CB.out _).mono ?_;rintro e w2 ⟨rfl,⟨m2,rfl⟩⟩))
    go_ret
    exact ⟨rfl,by repeat (first | exact HB2.out _ | apply pw_below_drewN)⟩
   |false =>
    rw[hb]at CB
    have h256:l.length=256:=by
     unfold headOk at hno
     rw[hk,hn,hb]at hno
     simpa using hno
    have HL:=Aside0.mk (fun (W:World) (m:Nat) (hd:DeclAt W mb l)=>(show (Builtin.len_ #[137] 3 #[.map (some mb)]).run Tryz.prog (W.drewN m)= .ok (.int .i64 256) (W.drewN m)from by
     have:=(hd.below (pw_below_drewN (Below.refl _ _) m)).len 3
     rw[h256]at this
     exact this))
    clear hk hno hn hb h256 hl
    go_enter Tryz.func150,Tryz.ntmps150
    go_wp2_with (first
     |(go_at_call 169;refine (CN.out _).mono ?_;rintro e w1 ⟨rfl,⟨m1,rfl⟩⟩)
     |(go_at_call 116;refine (CB.out _).mono ?_;rintro e w2 ⟨rfl,⟨m2,rfl⟩⟩;have hle:=HL.out _ (m1+m2) (HD2.out (.cells #[.string k0,.slice A0 n0 c0] 178));have hle2:=HL.out _ (1+m1+m2) (HD2.out (.cells #[.string k0,.slice A0 n0 c0] 178))))
    go_ret
    exact ⟨rfl,by repeat (first | exact HB2.out _ | apply pw_below_drewN)⟩
end
end
section
theorem field178 (k:ByteArray) (A:Option Addr) (n c:Nat) (w:World):(Instr.field 178 (.agg #[.string k,.slice A n c]) 0).run Tryz.prog w= .ok (.string k) w:=by
 kernel_rfl
theorem rdOf_mem (l:List ByteArray) (x:Int) (h0:0≤x) (h1:x<l.length):rdOf ByteArray.empty l x∈l:=by
 unfold rdOf
 rw[List.getD_eq_getElem?_getD,List.getElem?_eq_getElem (by omega)]
 exact List.getElem_mem _
theorem take_rdOf (l:List ByteArray) (x:Int) (h0:0≤x) (h1:x<l.length):l.take (x+1).toNat=l.take x.toNat++[rdOf ByteArray.empty l x]:=by
 have e:(x+1).toNat=x.toNat+1:=by omega
 rw[e,List.take_succ_eq_append_getElem (by omega)]
 unfold rdOf
 rw[List.getD_eq_getElem?_getD,List.getElem?_eq_getElem (by omega)]
 rfl
def Decl (w:World) (mb:Nat) (l:Decls) (sym kind:ByteArray) (ok:Bool) (e:Ending) (w' :World):Prop :=
 e= .returned (.bool ok)∧DeclAt w' mb (if ok=true then l++[(sym,kind)]else l)∧w.grownBy w' (some mb)
section
variable {w:World} {mb:Nat} {l:Decls}
theorem DeclAt.no (h:DeclAt w mb l) {w' :World} (hB:Below w.heap.size w w') (sym kind:ByteArray):Decl w mb l sym kind false (.returned (.bool false)) w' :=⟨rfl,h.below hB,grown_of_below hB _⟩
set_option maxHeartbeats 2000000 in
set_option maxRecDepth 100000 in
theorem declare_main (h:DeclAt w mb l) (sym kind:ByteArray) (A:Option Addr) (c:Nat) (sorts:List ByteArray) (hr:Kd.string.C w A sorts.length sorts) (hc:sorts.length≤c) (hsym:sym.size≤2000000) (hso:∀x∈sorts,x.size≤2000000) (hn:sorts.length≤2000000) (hl:l.length≤256) (hok:headOk l sym=true) :
  Calls Tryz.prog 150 #[.map (some mb),.string sym,.agg #[.string kind,.slice A sorts.length c]] w (Decl w mb l sym kind (sorts.all (sortOk l kind) && tailOk kind sorts.length)):=by
 have hB1:=below_alloc (Below.refl w.heap.size w) (.cells #[.string kind,.slice A sorts.length c] 178)
 have hX1:=heap_alloc_new w (.cells #[.string kind,.slice A sorts.length c] 178)
 have hD1:=h.below hB1
 obtain ⟨k0,A0,n0,c0,hlk⟩:=hD1.look_ok sym (by unfold maxLen;omega)
 have HB2:=Aside0.mk (fun (o:Obj)=>below_alloc hB1 o)
 have HX2:=Aside0.mk (fun (o:Obj)=>blk_alloc hX1 o)
 have HD2:=Aside0.mk (fun (o:Obj)=>hD1.below (below_alloc (Below.refl _ _) o))
 have CN:=Aside0.mk (fun (W:World)=>name_calls sym W hsym)
 have CB:=Aside0.mk (fun (W:World)=>builtin_calls sym W)
 have hok' :=hok
 unfold headOk at hok'
 simp only[Bool.and_eq_true,Bool.not_eq_true',decide_eq_true_eq]at hok'
 obtain ⟨⟨⟨hk,hnm⟩,hb⟩,h256⟩:=hok'
 rw[hk]at hlk
 rw[hnm]at CN
 rw[hb]at CB
 have hk1:=blk_cell hX1 1
 have HR:=Aside0.mk hr
 have HSO:=Aside0.mk hso
 have HKN:=Aside0.mk hk
 have q256:((l.length:Int) == 256)=false:=beq_eq_false_iff_ne.mpr (by omega)
 have HL:=Aside0.mk (fun (W:World) (m:Nat) (hd:DeclAt W mb l)=>(hd.below (pw_below_drewN (Below.refl _ _) m)).len 3)
 have x1:∀o,((w.alloc (.cells #[.string kind,.slice A sorts.length c] 178)).alloc o).cell? ⟨w.heap.size,1,none⟩=some (.slice A sorts.length c):=fun o=>blk_cell (HX2.out o) 1
 clear h hD1 hr hso hok hk hnm hb h256 hX1 hk1
 go_enter Tryz.func150,Tryz.ntmps150
 go_wp2_with (first
  |(go_at_call 169;refine (CN.out _).mono ?_;rintro e w1 ⟨rfl,⟨m1,rfl⟩⟩)
  |(go_at_call 116;refine (CB.out _).mono ?_;rintro e w2 ⟨rfl,⟨m2,rfl⟩⟩;have hle:=HL.out _ (m1+m2) (HD2.out (.cells #[.string k0,.slice A0 n0 c0] 178))))
 have HS0:=Aside0.mk (And.intro ((HD2.out (.cells #[.string k0,.slice A0 n0 c0] 178)).below (pw_below_drewN (Below.refl _ _) (m1+m2))) (And.intro (pw_below_drewN (HB2.out (.cells #[.string k0,.slice A0 n0 c0] 178)) (m1+m2)) (blk_drewN (HX2.out (.cells #[.string k0,.slice A0 n0 c0] 178)) (m1+m2))))
 clear hle hlk HL CN CB HD2 HB2 HX2 q256
 go_loopw [35] (fun i w' =>∃x:Int,i= .int .i64 x∧0≤x∧x≤sorts.length∧Aside0 ((sorts.take x.toNat).all (sortOk l kind)=true)∧Aside0 (DeclAt w' mb l∧Below w.heap.size w w' ∧w'.heap[w.heap.size]? =some (.cells #[.string kind,.slice A sorts.length c] 178 (0,0)))) (fun i _=>sorts.length-(intOf i).toNat)
 case atStart=>exact ⟨0,rfl,Int.le_refl _,Int.natCast_nonneg _,⟨by simp⟩,HS0⟩
 case round =>
  clear HS0
  obtain ⟨x,rfl,hx,hk,HV,HS⟩:=hrel
  have y0:=blk_cell HS.out.2.2 0
  have y1:=blk_cell HS.out.2.2 1
  simp at y0 y1
  by_cases hlt:x<sorts.length
  ·obtain ⟨ad,e,hx0⟩:=Kd.at_string HR.out x hx hlt
   cases e
   replace hx0:=(HS.out.2.1.cell (World.block_lt_of_cell? w _ hx0)).trans hx0
   have p1:=eq_true hx
   have q1:=eq_true hlt
   have hs:=HSO.out _ (rdOf_mem sorts x hx hlt)
   have HT1:Aside0 (sortOk l kind (rdOf ByteArray.empty sorts x)=true→(sorts.take (x+1).toNat).all (sortOk l kind)=true):=⟨fun h=>by rw[take_rdOf sorts x hx hlt,List.all_append,HV.out,List.all_cons,h];simp⟩
   have HT2:Aside0 (sortOk l kind (rdOf ByteArray.empty sorts x)=false→sorts.all (sortOk l kind)=false):=⟨fun h=>by rw[List.all_eq_false];exact ⟨_,rdOf_mem sorts x hx hlt,by rw[h];simp⟩⟩
   obtain ⟨A3,n3,c3,hlk⟩:=HS.out.1.look (rdOf ByteArray.empty sorts x) (by unfold maxLen;omega)
   have hfd:=field178 (kindOf l (rdOf ByteArray.empty sorts x)) A3 n3 c3 wr
   have CB:=Aside0.mk (fun (W:World)=>builtin_calls (rdOf ByteArray.empty sorts x) W)
   have HSK:Aside0 (sortOk l kind (rdOf ByteArray.empty sorts x)=(((kindOf l (rdOf ByteArray.empty sorts x)).toList == ([115,111,114,116]:List UInt8)) || (!(kind.toList == ([99,111,110,115,116,97,110,116]:List UInt8)) && builtinS (rdOf ByteArray.empty sorts x)))):=⟨rfl⟩
   generalize sortOk l kind (rdOf ByteArray.empty sorts x)=so at *
   generalize kindOf l (rdOf ByteArray.empty sorts x)=K at *
   generalize builtinS (rdOf ByteArray.empty sorts x)=bb at *
   generalize rdOf ByteArray.empty sorts x=s at *
   cases t1:(K.toList == ([115,111,114,116]:List UInt8))with
   |true =>
    have HF:Aside0 ((sorts.take (x+1).toNat).all (sortOk l kind)=true):=⟨HT1.out (by rw[HSK.out,t1];rfl)⟩
    clear HT1 HT2 HSK
    go_wp2
    go_roundw
    case rel=>exact ⟨x+1,rfl,by omega,by omega,HF,HS⟩
    case measure=>simp[intOf];omega
   |false =>
    cases t2:(kind.toList == ([99,111,110,115,116,97,110,116]:List UInt8))with
    |true =>
     have HF:Aside0 (Decl w mb l sym kind (sorts.all (sortOk l kind) && tailOk kind sorts.length) (.returned (.bool false)) wr):=⟨by
      rw[HT2.out (by rw[HSK.out,t1,t2];rfl),Bool.false_and]
      exact ⟨rfl,HS.out.1,grown_of_below HS.out.2.1 _⟩⟩
     clear HT1 HT2 HSK
     go_wp2
     go_ret
     exact ⟨HF.out.1,HF.out.2⟩
    |false =>
     cases bb with
     |true =>
      have HF:Aside0 ((sorts.take (x+1).toNat).all (sortOk l kind)=true):=⟨HT1.out (by rw[HSK.out,t1,t2];rfl)⟩
      clear HT1 HT2 HSK
      go_wp2_with (go_at_call 116;refine (CB.out _).mono ?_;rintro e w2 ⟨rfl,⟨m2,rfl⟩⟩;have HS2:=Aside0.mk (And.intro (HS.out.1.below (pw_below_drewN (Below.refl _ _) m2)) (And.intro (pw_below_drewN HS.out.2.1 m2) (blk_drewN HS.out.2.2 m2))))
      go_roundw
      case rel=>exact ⟨x+1,rfl,by omega,by omega,HF,HS2⟩
      case measure=>simp[intOf];omega
     |false =>
      have HF:=Aside0.mk (fun (m:Nat)=>(show Decl w mb l sym kind (sorts.all (sortOk l kind) && tailOk kind sorts.length) (.returned (.bool false)) (wr.drewN m)from by
       rw[HT2.out (by rw[HSK.out,t1,t2];rfl),Bool.false_and]
       exact ⟨rfl,HS.out.1.below (pw_below_drewN (Below.refl _ _) m),grown_of_below (pw_below_drewN HS.out.2.1 m) _⟩))
      clear HT1 HT2 HSK
      go_wp2_with (go_at_call 116;refine (CB.out _).mono ?_;rintro e w2 ⟨rfl,⟨m2,rfl⟩⟩)
      go_ret
      exact ⟨(HF.out m2).1,(HF.out m2).2⟩
  ·have HALL:Aside0 (sorts.all (sortOk l kind)=true):=⟨by
    have:=HV.out
    rwa [List.take_of_length_le (by omega)]at this⟩
   obtain ⟨wS,hrun,hDS,hgS⟩:=HS.out.1.store (by omega) sym kind A sorts.length c (by unfold maxLen;omega) HKN.out
   have HY0:=Aside0.mk (And.intro hDS ((grown_of_below HS.out.2.1 (some mb)).trans hgS))
   have HT:Aside0 (tailOk kind sorts.length=(!(kind.toList == ([112,114,101,100,105,99,97,116,101]:List UInt8)) || (decide (1≤sorts.length) && decide (sorts.length≤3)))):=⟨rfl⟩
   have HYES:Aside0 (tailOk kind sorts.length=true→Decl w mb l sym kind (sorts.all (sortOk l kind) && tailOk kind sorts.length) (.returned (.bool true)) wS):=⟨fun h=>by
    rw[HALL.out,h]
    exact ⟨rfl,HY0.out.1,HY0.out.2⟩⟩
   have HNO:Aside0 (tailOk kind sorts.length=false→Decl w mb l sym kind (sorts.all (sortOk l kind) && tailOk kind sorts.length) (.returned (.bool false)) wr):=⟨fun h=>by
    rw[HALL.out,h]
    exact ⟨rfl,HS.out.1,grown_of_below HS.out.2.1 _⟩⟩
   clear hDS hgS HV HALL
   cases t3:(kind.toList == ([112,114,101,100,105,99,97,116,101]:List UInt8))with
   |false =>
    have HY:=Aside0.mk (HYES.out (by rw[HT.out,t3];rfl))
    clear HT HYES HNO
    go_wp2
    go_ret
    exact ⟨HY.out.1,HY.out.2⟩
   |true =>
    by_cases n1:1≤sorts.length
    ·have g1:decide ((sorts.length:Int)<1)=false:=decide_eq_false (by omega)
     by_cases n3:sorts.length≤3
     ·have g3:decide (3<(sorts.length:Int))=false:=decide_eq_false (by omega)
      have HY:=Aside0.mk (HYES.out (by rw[HT.out,t3];simp[n1,n3]))
      clear HT HYES HNO n1 n3
      go_wp2
      go_ret
      exact ⟨HY.out.1,HY.out.2⟩
     ·have g3:decide (3<(sorts.length:Int))=true:=decide_eq_true (by omega)
      have HY:=Aside0.mk (HNO.out (by rw[HT.out,t3];simp[n3]))
      clear HT HYES HNO n1 n3 hrun
      go_wp2
      go_ret
      exact ⟨HY.out.1,HY.out.2⟩
    ·have g1:decide ((sorts.length:Int)<1)=true:=decide_eq_true (by omega)
     have HY:=Aside0.mk (HNO.out (by rw[HT.out,t3];simp[n1]))
     clear HT HYES HNO n1 hrun
     go_wp2
     go_ret
     exact ⟨HY.out.1,HY.out.2⟩
theorem declare_calls (h:DeclAt w mb l) (sym kind:ByteArray) (A:Option Addr) (c:Nat) (sorts:List ByteArray) (hr:Kd.string.C w A sorts.length sorts) (hc:sorts.length≤c) (hsym:sym.size≤2000000) (hso:∀x∈sorts,x.size≤2000000) (hn:sorts.length≤2000000) (hl:l.length≤256) :
  Calls Tryz.prog 150 #[.map (some mb),.string sym,.agg #[.string kind,.slice A sorts.length c]] w (Decl w mb l sym kind (declOk l sym kind sorts)):=by
 cases hok:headOk l sym with
 |false =>
  refine (declare_head h sym kind A sorts.length c hsym hl hok).mono ?_
  rintro e w' ⟨rfl,hB⟩
  unfold declOk
  rw[hok,Bool.false_and,Bool.false_and]
  exact h.no hB sym kind
 |true =>
  unfold declOk
  rw[hok,Bool.true_and]
  exact declare_main h sym kind A c sorts hr hc hsym hso hn hl hok
end
end
section
def declAll:Decls→List (ByteArray×ByteArray×List ByteArray)→Option Decls
 |l,[]=>some l
 |l,d::r=>if declOk l d.1 d.2.1 d.2.2=true then declAll (l++[(d.1,d.2.1)]) r else none
def dSort (x:ByteArray):ByteArray×ByteArray×List ByteArray:=(x,sSort,[])
def dConst (c:S105):ByteArray×ByteArray×List ByteArray:=(c.f0,sConst,[c.f1])
def dPred (p:S107):ByteArray×ByteArray×List ByteArray:=(p.f0,sPred,p.f1)
def sigDecls (ss:List ByteArray) (cs:List S105) (ps:List S107):List (ByteArray×ByteArray×List ByteArray):=ss.map dSort++(cs.map dConst++ps.map dPred)
def sigOk (ss:List ByteArray) (cs:List S105) (ps:List S107):Bool:=(declAll [] (sigDecls ss cs ps)).isSome
theorem drop_rdOf (l:List ByteArray) (x:Int) (h0:0≤x) (h1:x<l.length):l.drop x.toNat=rdOf ByteArray.empty l x::l.drop (x+1).toNat:=by
 rw[show (x+1).toNat=x.toNat+1 by omega,List.drop_eq_getElem_cons (by omega)]
 unfold rdOf
 rw[List.getD_eq_getElem?_getD,List.getElem?_eq_getElem (by omega)]
 rfl
theorem drop_rd105 (l:List S105) (x:Int) (h0:0≤x) (h1:x<l.length):l.drop x.toNat=rd_T105 l x::l.drop (x+1).toNat:=by
 rw[show (x+1).toNat=x.toNat+1 by omega,List.drop_eq_getElem_cons (by omega)]
 unfold rd_T105
 rw[List.getD_eq_getElem?_getD,List.getElem?_eq_getElem (by omega)]
 rfl
theorem drop_rd107 (l:List S107) (x:Int) (h0:0≤x) (h1:x<l.length):l.drop x.toNat=rd_T107 l x::l.drop (x+1).toNat:=by
 rw[show (x+1).toNat=x.toNat+1 by omega,List.drop_eq_getElem_cons (by omega)]
 unfold rd_T107
 rw[List.getD_eq_getElem?_getD,List.getElem?_eq_getElem (by omega)]
 rfl
theorem rd105_mem (l:List S105) (x:Int) (h0:0≤x) (h1:x<l.length):rd_T105 l x∈l:=by
 unfold rd_T105
 rw[List.getD_eq_getElem?_getD,List.getElem?_eq_getElem (by omega)]
 exact List.getElem_mem _
theorem rd107_mem (l:List S107) (x:Int) (h0:0≤x) (h1:x<l.length):rd_T107 l x∈l:=by
 unfold rd_T107
 rw[List.getD_eq_getElem?_getD,List.getElem?_eq_getElem (by omega)]
 exact List.getElem_mem _
theorem C_one {w:World} {b:Nat} {x:ByteArray} (h:w.heap[b]? =some (.cells #[.string x] 9 (0,0))):Kd.string.C w (some ⟨b,0,none⟩) 1 [x]:=by
 refine ⟨rfl,show (1:Nat)≤9223372036854775807 by decide,fun _=>⟨_,rfl,fun j p hj=>⟨[.string p],rfl,rfl,fun i u hi=> ?_⟩⟩⟩
 have hi0:i=0:=by
  have:=(List.getElem?_eq_some_iff.1 hi).1
  simp at this
  exact this
 subst hi0
 have hj0:j=0:=by
  have:=(List.getElem?_eq_some_iff.1 hj).1
  simp at this
  exact this
 subst hj0
 simp at hi hj
 subst hi
 subst hj
 rw[add_plain]
 exact blk_cell h 0
theorem declOk_len {l:Decls} {a b:ByteArray} {so:List ByteArray} (h:declOk l a b so=true):l.length≠256:=by
 unfold declOk headOk at h
 simp only[Bool.and_eq_true,decide_eq_true_eq]at h
 exact h.1.1.2
structure Sym (w w' :World) (mb:Nat) (box:Obj) (l:Decls):Prop where
 dec:DeclAt w' mb l
 below:Below w.heap.size w w'
 box:w'.heap[w.heap.size]? =some box
 few:l.length≤256
 ge:w.heap.size<mb
section
variable {w w1 w2 w3:World} {mb:Nat} {box:Obj} {l:Decls}
theorem Sym.grow (h:Sym w w1 mb box l) (hB:Below w1.heap.size w1 w2):Sym w w2 mb box l:=⟨h.dec.below hB,below_step h.below hB,blk_below h.box hB,h.few,h.ge⟩
theorem Sym.decl {sym kind:ByteArray} {so:List ByteArray} {e:Ending} (h:Sym w w1 mb box l) (hd:Decl w1 mb l sym kind (declOk l sym kind so) e w2):Sym w w2 mb box (if declOk l sym kind so=true then l++[(sym,kind)]else l):=by
 obtain ⟨_,h2,h3⟩:=hd
 have hge:=h.ge
 have hbx:=blk_lt h.box
 have hsz:=h.below.size
 refine ⟨h2,⟨h3.os.trans h.below.os,h3.tape.trans h.below.tape,h3.output.trans h.below.output,Nat.le_trans h.below.size h3.size,fun k hk=>(h3.block k (by omega) (fun he=>by injection he with he;omega)).trans (h.below.block k hk)⟩,?_,?_,h.ge⟩
 ·exact (h3.block _ hbx (fun he=>by injection he with he;omega)).trans h.box
 ·split
  ·rename_i hok
   have:=declOk_len hok
   have:=h.few
   rw[List.length_append]
   simp only[List.length_cons,List.length_nil]
   omega
  ·exact h.few
end
end
end Go.Proofs.YtcfjomnihhdpaaaGreatDoor.A
