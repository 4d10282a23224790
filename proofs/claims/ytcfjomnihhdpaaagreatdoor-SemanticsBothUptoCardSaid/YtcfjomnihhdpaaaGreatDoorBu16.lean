/-
  A part of the proof: R89, R90, R91, R93, R94, R95, R96, R97.
-/
import Derived.StillTailTactics
import Derived.Deep.RegionLaw
import Derived.BigQuiet
import Derived.BigRegion
import Derived.Test.YtcfjomnihhdpaaaGreatDoorBu3
import Derived.Test.YtcfjomnihhdpaaaGreatDoorBu15
namespace Go.Proofs.YtcfjomnihhdpaaaGreatDoor.A
open Go.RowKit Go.Proofs.YtcfjomnihhdpaaaGreatDoorW.PrintWords Go.Proofs.YtcfjomnihhdpaaaGreatDoorW.PrintLast Go.Proofs.YtcfjomnihhdpaaaGreatDoorW.PrintMore
set_option linter.unusedVariables false
set_option linter.unusedSimpArgs false
structure FmC (w:World) (f:S37) (A2:Option Addr) (c2:Nat) (A5:Option Addr) (c5:Nat):Prop where
 l2:f.f2.length≤c2
 a:k59.C w A2 f.f2.length f.f2
 l5:f.f5.length≤c5
 k:k37.C w A5 f.f5.length f.f5
theorem FmC.below {w w' :World} {f:S37} {A2 A5:Option Addr} {c2 c5:Nat} (h:FmC w f A2 c2 A5 c5) (hB:Below w.heap.size w w'):FmC w' f A2 c2 A5 c5 :=
 ⟨h.l2,Kd.C_below h.a hB,h.l5,Kd.C_below h.k hB⟩
def kwB (op:Int):ByteArray:=(formula_keyword.f op).getD ⟨#[]⟩
theorem kw_some (op:Int):formula_keyword.f op=some (kwB op):=by
 cases h:formula_keyword.f op with
 |some r=>simp[kwB,h]
 |none =>
  exfalso
  have one:∀(c:Prop) [Decidable c] (a:ByteArray) (e:Option ByteArray),e≠none→(if c then some a else e)≠none:=by
   intro c _ a e he
   by_cases hc:c
   ·rw[if_pos hc];exact Option.some_ne_none _
   ·rw[if_neg hc];exact he
  refine absurd h ?_
  unfold formula_keyword.f
  repeat refine one _ _ _ ?_
  exact Option.some_ne_none _
def refB (r:S59):ByteArray:=if r.f0=1 then ⟨#[35]⟩++itoaB r.f1 else if r.f0=3 then ⟨#[64]⟩++itoaB r.f1 else if r.f0=4 then itoaB r.f1 else r.f2
def sepB (y:Int):ByteArray:=if 0<y then ⟨#[44,32]⟩else ⟨#[]⟩
def argsW (y:Int):List S59→ByteArray
 | []=>⟨#[]⟩
 |r::l=>sepB y++(refB r++argsW (y+1) l)
def headB (op:Int) (nm:ByteArray):ByteArray:=if op=3 then nm else if op=8∨op=9 then kwB op++⟨#[32]⟩++nm else kwB op
mutual
/-- A formula's text (formulas without During). -/
def wrP:S37→ByteArray
 |⟨op,nm,ar,_,_,ks⟩=>if op=1∨op=2 then kwB op else headB op nm++(⟨#[40]⟩++(argsW 0 ar++(kidsW 0 ks++⟨#[41]⟩)))
def kidsW (y:Int):List S37→ByteArray
 | []=>⟨#[]⟩
 |k::r=>sepB y++(wrP k++kidsW (y+1) r)
end
theorem wrP_eq (f:S37):wrP f=if f.f0=1∨f.f0=2 then kwB f.f0 else headB f.f0 f.f1++(⟨#[40]⟩++(argsW 0 f.f2++(kidsW 0 f.f5++⟨#[41]⟩))):=by cases f;simp only[wrP]
theorem strCells_append (a b:ByteArray):Lib.strCells (a++b)=Lib.strCells a++Lib.strCells b:=by
 unfold Lib.strCells
 rw[show (a++b).data=a.data++b.data from ByteArray.data_append ..]
 simp
theorem bassoc (a b c:ByteArray):a++b++c=a++(b++c):=by
 apply ByteArray.ext
 simp only[ByteArray.data_append,Array.append_assoc]
theorem bnil (a:ByteArray):(⟨#[]⟩:ByteArray)++a=a:=by
 apply ByteArray.ext
 simp[ByteArray.data_append]
theorem isB_below {B b:Nat} {bs:List Value} {w w' :World} (h:Lib.IsBuilder 111 5 B b bs w) (hB:Below w.heap.size w w'):Lib.IsBuilder 111 5 B b bs w' :=by
 have one:∀{p},Lib.BuilderAt 111 5 B b p bs w→Lib.BuilderAt 111 5 B b p bs w' :=by
  rintro p ⟨h1,v,h2,h3,h4⟩
  exact ⟨h1,v,blk_below h2 hB,h3.kept (row:=none) ⟨hB.os,hB.tape,hB.output,hB.size,fun k hk _=>hB.block k hk⟩ (by cases hv:v.ownBlock<;>simp),h4⟩
 rcases h with h | h
 ·exact .inl (one h)
 ·exact .inr (one h)
theorem isB_lt {B b:Nat} {bs:List Value} {w:World} (h:Lib.IsBuilder 111 5 B b bs w):b<w.heap.size:=by
 rcases h with h | h
 ·exact h.lt
 ·exact h.lt
theorem ok_below {b:Nat} {a w w' :World} (h:Lib.OthersKept 5 (some b) a w) (hB:Below w.heap.size w w'):Lib.OthersKept 5 (some b) a w' :=by
 intro k x hk hb hx
 have h1:=h k x hk hb hx
 exact (hB.block k (Array.getElem?_eq_some_iff.1 h1).1).trans h1
theorem ok_box {k b:Nat} {w w' :World} {cs:Array Value} {T:TypeId} (h:Lib.OthersKept 5 (some b) w w') (hk:w.heap[k]? =some (.cells cs T (0,0))) (hT:T≠5) (hkb:k≠b):w'.heap[k]? =some (.cells cs T (0,0)) :=
 h k _ hk (by simp[hkb]) (fun c fz e=>by injection e with e1 e2 e3;exact hT e2)
structure WrSt (w0 w:World) (b:Nat) (bs:List Value) (acc:ByteArray) (W:World):Prop where
 ib:Lib.IsBuilder 111 5 w0.heap.size b (bs++Lib.strCells acc) W
 below:Below w0.heap.size w W
 ok:Lib.OthersKept 5 (some b) w W
theorem WrSt.step {w0 w W W' :World} {b:Nat} {bs:List Value} {acc:ByteArray} (h:WrSt w0 w b bs acc W) (hw:w0.heap.size≤W.heap.size) (hB:Below W.heap.size W W'):WrSt w0 w b bs acc W' :=
 ⟨isB_below h.ib hB,h.below.trans (hB.mono hw),ok_below h.ok hB⟩
theorem WrSt.sz {w0 w W:World} {b:Nat} {bs:List Value} {acc:ByteArray} (h:WrSt w0 w b bs acc W) (hB:Below w0.heap.size w0 w):Below w0.heap.size w0 W:=hB.trans h.below
theorem wr_str {w0 w W:World} {b:Nat} {bs:List Value} {acc s R X:ByteArray} (hB:Below w0.heap.size w0 w) (hX:bs.length+X.size≤1099511627776) (h:WrSt w0 w b bs acc W) (heq:acc++(s++R)=X) :
  Calls Tryz.prog 122 #[.pointer (some ⟨b,0,none⟩),.string s] W fun e w' =>e= .returned (.tuple #[.int .i64 s.size,.nilIface])∧WrSt w0 w b bs (acc++s) w' ∧Lib.OthersKept 5 (some b) W w' ∧(acc++s)++R=X:=by
 have hl:acc.size+(s.size+R.size)=X.size:=by rw[←heq,ByteArray.size_append,ByteArray.size_append]
 refine (wstr_callsK w0.heap.size b _ s W h.ib (by simp[Lib.strCells_length];omega) (h.sz hB).size).mono ?_
 rintro e w' ⟨rfl,h1,h2,h3⟩
 exact ⟨rfl,⟨by rw[strCells_append,←List.append_assoc];exact h1,h.below.trans h2,h.ok.trans h3⟩,h3,by rw[bassoc];exact heq⟩
theorem wr_byte {w0 w W:World} {b:Nat} {bs:List Value} {acc R X:ByteArray} (c:UInt8) (hB:Below w0.heap.size w0 w) (hX:bs.length+X.size≤1099511627776) (h:WrSt w0 w b bs acc W) (heq:acc++(⟨#[c]⟩++R)=X) :
  Calls Tryz.prog 125 #[.pointer (some ⟨b,0,none⟩),.int .u8 c.toNat] W fun e w' =>e= .returned .nilIface∧WrSt w0 w b bs (acc++⟨#[c]⟩) w' ∧Lib.OthersKept 5 (some b) W w' ∧(acc++⟨#[c]⟩)++R=X:=by
 have hl:acc.size+(1+R.size)=X.size:=by rw[←heq,ByteArray.size_append,ByteArray.size_append];rfl
 refine (wbyte_callsK w0.heap.size b _ c.toNat W h.ib (by simp[Lib.strCells_length];omega) (h.sz hB).size).mono ?_
 rintro e w' ⟨rfl,h1,h2,h3⟩
 exact ⟨rfl,⟨by rw[strCells_append,←List.append_assoc];exact h1,h.below.trans h2,h.ok.trans h3⟩,h3,by rw[bassoc];exact heq⟩
def WrRet (w0:World) (b:Nat) (bs:List Value) (f:S37) (w:World) (e:Ending) (w' :World):Prop:=e= .returned (.tuple #[])∧WrSt w0 w b bs (wrP f) w'
theorem drop_get {α:Type} (d:α) (l:List α) (y:Int) (h0:0≤y) (h1:y<l.length):l.drop y.toNat=l.getD y.toNat d::l.drop (y+1).toNat:=by
 have e:(y+1).toNat=y.toNat+1:=by omega
 rw[e,List.drop_eq_getElem_cons (by omega),List.getD_eq_getElem?_getD,List.getElem?_eq_getElem (by omega),Option.getD_some]
theorem mem_get {α:Type} (d:α) (l:List α) (y:Int) (h0:0≤y) (h1:y<l.length):l.getD y.toNat d∈l:=by
 rw[List.getD_eq_getElem?_getD,List.getElem?_eq_getElem (by omega),Option.getD_some]
 exact List.getElem_mem _
theorem piece_len {acc s R X:ByteArray} {n:Nat} (h:acc++(s++R)=X) (hX:n+X.size≤1099511627776):acc.size+(s.size+R.size)≤1099511627776:=by
 have hl:acc.size+(s.size+R.size)=X.size:=by rw[←h,ByteArray.size_append,ByteArray.size_append]
 omega
theorem kw_size (op:Int):(kwB op).size≤9:=by
 have h:=kw_some op
 have one:∀(c:Prop) [Decidable c] (a:ByteArray) (e:Option ByteArray),a.size≤9→(∀r,e=some r→r.size≤9)→∀r,(if c then some a else e)=some r→r.size≤9:=by
  intro c _ a e ha he r hr
  by_cases hc:c
  ·rw[if_pos hc]at hr;exact Option.some.inj hr▸ha
  ·rw[if_neg hc]at hr;exact he r hr
 revert h
 generalize kwB op=r
 unfold formula_keyword.f
 revert r
 repeat refine one _ _ _ (by decide) ?_
 intro r hr
 exact Option.some.inj hr▸(by decide)
theorem head_cases (f:S37) (h1:f.f0≠1) (h2:f.f0≠2):((f.f0 == 3)=true∧headB f.f0 f.f1=f.f1)∨((f.f0 == 3)=false∧(f.f0 == 8)=true∧headB f.f0 f.f1=kwB f.f0++⟨#[32]⟩++f.f1)∨((f.f0 == 3)=false∧(f.f0 == 8)=false∧(f.f0 == 9)=true∧headB f.f0 f.f1=kwB f.f0++⟨#[32]⟩++f.f1)∨((f.f0 == 3)=false∧(f.f0 == 8)=false∧(f.f0 == 9)=false∧headB f.f0 f.f1=kwB f.f0):=by
 unfold headB
 by_cases h3:f.f0=3
 ·exact .inl ⟨beq_iff_eq.mpr h3,if_pos h3⟩
 ·refine .inr ?_
  have b3:(f.f0 == 3)=false:=beq_eq_false_iff_ne.mpr h3
  rw[if_neg h3]
  by_cases h8:f.f0=8
  ·exact .inl ⟨b3,beq_iff_eq.mpr h8,if_pos (.inl h8)⟩
  ·refine .inr ?_
   have b8:(f.f0 == 8)=false:=beq_eq_false_iff_ne.mpr h8
   by_cases h9:f.f0=9
   ·exact .inl ⟨b3,b8,beq_iff_eq.mpr h9,if_pos (.inr h9)⟩
   ·exact .inr ⟨b3,b8,beq_eq_false_iff_ne.mpr h9,if_neg (fun h=>h.elim h8 h9)⟩
theorem sep_cases (y:Int):((0<y)=True∧sepB y=⟨#[44,32]⟩)∨((0<y)=False∧sepB y=⟨#[]⟩):=by
 by_cases h:0<y
 ·exact .inl ⟨eq_true h,if_pos h⟩
 ·exact .inr ⟨eq_false h,if_neg h⟩
theorem ref_cases (r:S59):((r.f0 == 1)=true∧refB r=⟨#[35]⟩++itoaB r.f1)∨((r.f0 == 1)=false∧(r.f0 == 3)=true∧refB r=⟨#[64]⟩++itoaB r.f1)∨((r.f0 == 1)=false∧(r.f0 == 3)=false∧(r.f0 == 4)=true∧refB r=itoaB r.f1)∨((r.f0 == 1)=false∧(r.f0 == 3)=false∧(r.f0 == 4)=false∧refB r=r.f2):=by
 unfold refB
 by_cases h1:r.f0=1
 ·exact .inl ⟨beq_iff_eq.mpr h1,if_pos h1⟩
 ·rw[if_neg h1]
  have b1:(r.f0 == 1)=false:=beq_eq_false_iff_ne.mpr h1
  by_cases h3:r.f0=3
  ·exact .inr (.inl ⟨b1,beq_iff_eq.mpr h3,if_pos h3⟩)
  ·rw[if_neg h3]
   have b3:(r.f0 == 3)=false:=beq_eq_false_iff_ne.mpr h3
   by_cases h4:r.f0=4
   ·exact .inr (.inr (.inl ⟨b1,b3,beq_iff_eq.mpr h4,if_pos h4⟩))
   ·exact .inr (.inr (.inr ⟨b1,b3,beq_eq_false_iff_ne.mpr h4,if_neg h4⟩))
theorem wr_kid {w0 w W W' :World} {b:Nat} {bs:List Value} {ac s:ByteArray} (h:WrSt w0 w b bs ac W) (h1:WrSt w0 W b (bs++Lib.strCells ac) s W'):WrSt w0 w b bs (ac++s) W' :=
 ⟨by rw[strCells_append,←List.append_assoc];exact h1.ib,h.below.trans h1.below,h.ok.trans h1.ok⟩
set_option maxHeartbeats 8000000 in
set_option maxRecDepth 100000 in
theorem write_step (T:Lib.PrintTabs) (f:S37) (w0 w:World) (b:Nat) (bs:List Value) (A2:Option Addr) (c2:Nat) (A5:Option Addr) (c5:Nat) (fv:FmC w0 f A2 c2 A5 c5) (hT:Tabs T w0) (hB:Below w0.heap.size w0 w) (hb:Lib.IsBuilder 111 5 w0.heap.size b bs w) (hlen:bs.length+(wrP f).size≤1099511627776)
  (hd:f.f0≠10) (hnm:f.f1.size≤2000000) (hl2:f.f2.length≤2000000) (hl5:f.f5.length≤2000000) (hr:∀r∈f.f2,0≤r.f1∧r.f1≤9223372036854775807)
  (ih:∀(x:S37) (W:World) (cs:List Value) (B2:Option Addr) (d2:Nat) (B5:Option Addr) (d5:Nat),x∈f.f5→FmC w0 x B2 d2 B5 d5→Below w0.heap.size w0 W→Lib.IsBuilder 111 5 w0.heap.size b cs W→cs.length+(wrP x).size≤1099511627776→Calls Tryz.prog 75 #[.pointer (some ⟨b,0,none⟩),.agg #[.int .i64 x.f0,.string x.f1,.slice B2 x.f2.length d2,.int .i64 x.f3,.int .i64 x.f4,.slice B5 x.f5.length d5]] W (WrRet w0 b cs x W)) :
  Calls Tryz.prog 75 #[.pointer (some ⟨b,0,none⟩),.agg #[.int .i64 f.f0,.string f.f1,.slice A2 f.f2.length c2,.int .i64 f.f3,.int .i64 f.f4,.slice A5 f.f5.length c5]] w (WrRet w0 b bs f w):=by
 have HB:=Aside0.mk hB
 have FV:=Aside0.mk fv
 have HT:=Aside0.mk hT
 have IH:=Aside0.mk ih
 have HR:=Aside0.mk hr
 have hbw:=isB_lt hb
 have HS0:Aside0 (WrSt w0 w b bs ⟨#[]⟩ (w.alloc (.cells #[.int .i64 f.f0,.string f.f1,.slice A2 f.f2.length c2,.int .i64 f.f3,.int .i64 f.f4,.slice A5 f.f5.length c5] 37))):=⟨WrSt.step ⟨by rw[show Lib.strCells ⟨#[]⟩=[]from rfl,List.append_nil];exact hb,Below.refl _ _,Lib.OthersKept.refl _ _ _⟩ hB.size (below_alloc (Below.refl _ _) _)⟩
 have HX0:=Aside0.mk (blk_new w (.cells #[.int .i64 f.f0,.string f.f1,.slice A2 f.f2.length c2,.int .i64 f.f3,.int .i64 f.f4,.slice A5 f.f5.length c5] 37))
 have HE:=Aside0.mk (wrP_eq f)
 have HLEN:=Aside0.mk hlen
 have hbg:w.heap.size≠b:=by omega
 clear fv hT ih hr hB hb hlen
 have x0:=blk_cell HX0.out 0
 have x1:=blk_cell HX0.out 1
 simp at x0 x1
 have K:=Aside0.mk (fun (W:World)=>formula_keyword.calls f.f0 (kwB f.f0) W (kw_some f.f0))
 generalize hW1:w.alloc (.cells #[.int .i64 f.f0,.string f.f1,.slice A2 f.f2.length c2,.int .i64 f.f3,.int .i64 f.f4,.slice A5 f.f5.length c5] 37)=W1 at *
 by_cases h12:f.f0=1∨f.f0=2
 ·have HEQ:Aside0 ((⟨#[]⟩:ByteArray)++(kwB f.f0++⟨#[]⟩)=wrP f):=⟨by rw[HE.out,if_pos h12,bnil];apply ByteArray.ext;simp[ByteArray.data_append]⟩
  have q0:(f.f0 == 1)=true∨(f.f0 == 1)=false∧(f.f0 == 2)=true:=by rcases h12 with h | h<;>simp[h]
  clear h12 HE
  rcases q0 with q1 | ⟨q1,q2⟩
  all_goals (
   subst hW1
   go_enter Tryz.func75,Tryz.ntmps75
   go_wp2_with (first | (go_at_call 123;refine (K.out _).mono ?_;rintro e w2 ⟨rfl,hD⟩;have HS1:=Aside0.mk (HS0.out.step (HS0.out.sz HB.out).size hD.below);clear hD) | (go_at_call 122;refine (wr_str HB.out HLEN.out HS1.out HEQ.out).mono ?_;rintro e w3 ⟨rfl,h1,_,h3⟩;have HS2:=Aside0.mk h1;have HEQ2:=Aside0.mk h3;clear h1 h3))
   go_end0
   refine ⟨rfl,?_⟩
   have he:=HEQ2.out
   rw[show ((⟨#[]⟩:ByteArray)++kwB f.f0++⟨#[]⟩)=(⟨#[]⟩:ByteArray)++kwB f.f0 by apply ByteArray.ext;simp[ByteArray.data_append]]at he
   rw[←he]
   exact HS2.out)
 ·have h1:f.f0≠1:=fun h=>h12 (.inl h)
  have h2:f.f0≠2:=fun h=>h12 (.inr h)
  have p1:(f.f0 == 1)=false:=beq_eq_false_iff_ne.mpr h1
  have p2:(f.f0 == 2)=false:=beq_eq_false_iff_ne.mpr h2
  have p10:(f.f0 == 10)=false:=beq_eq_false_iff_ne.mpr hd
  rw[if_neg h12]at HE
  clear h12 hd
  have hc:=head_cases f h1 h2
  clear h1 h2
  have HEQ0:Aside0 ((⟨#[]⟩:ByteArray)++(headB f.f0 f.f1++(⟨#[40]⟩++(argsW 0 f.f2++(kidsW 0 f.f5++⟨#[41]⟩))))=wrP f):=⟨by rw[HE.out,bnil]⟩
  clear HE
  subst hW1
  rcases hc with ⟨b3,hh⟩ | ⟨b3,b8,hh⟩ | ⟨b3,b8,b9,hh⟩ | ⟨b3,b8,b9,hh⟩
  all_goals (
   rw[hh]at HEQ0
   clear hh
   have hz1:(9223372036854775807<(kwB f.f0).size+1)=False:=eq_false (by have:=kw_size f.f0;omega)
   have hz2:(9223372036854775807<(kwB f.f0).size+1+f.f1.size)=False:=eq_false (by have:=kw_size f.f0;omega)
   have hz3:(9223372036854775807<(kwB f.f0++⟨#[32]⟩).size+f.f1.size)=False:=eq_false (by have:=kw_size f.f0;rw[ByteArray.size_append];have:(⟨#[32]⟩:ByteArray).size=1:=rfl;omega)
   go_enter Tryz.func75,Tryz.ntmps75
   go_wp2_with (first | (go_at_call 123;refine (K.out _).mono ?_;rintro e w1 ⟨rfl,hD⟩;have HS0:=Aside0.mk (HS0.out.step (HS0.out.sz HB.out).size hD.below);have HX0:=Aside0.mk (blk_below HX0.out hD.below);clear hD) | (go_at_call 122;refine (wr_str HB.out HLEN.out HS0.out HEQ0.out).mono ?_;rintro e w2 ⟨rfl,h1,h2,h3⟩;have HS1:=Aside0.mk h1;have HEQ1:=Aside0.mk h3;have HX1:=Aside0.mk (ok_box h2 HX0.out (by decide) hbg);clear h1 h2 h3) | (go_at_call 125;refine (wr_byte 40 HB.out HLEN.out HS1.out HEQ1.out).mono ?_;rintro e w3 ⟨rfl,h1,h2,h3⟩;have HS2:=Aside0.mk h1;have HEQ2:=Aside0.mk h3;have HX2:=Aside0.mk (ok_box h2 HX1.out (by decide) hbg);have x2:=blk_cell HX2.out 2;simp at x2;clear h1 h2 h3)))
  rotate_left
  iterate 2 (
   focus
    have SX:=Aside0.mk (fun (W:World) (hX:W.heap[w.heap.size]? =some (.cells #[.int .i64 f.f0,.string f.f1,.slice A2 f.f2.length c2,.int .i64 f.f3,.int .i64 f.f4,.slice A5 f.f5.length c5] 37 (0,0)))=>(show W.cell? ⟨w.heap.size,0,none⟩=some (.int .i64 f.f0)∧W.cell? ⟨w.heap.size,1,none⟩=some (.string f.f1)from ⟨blk_cell hX 0,blk_cell hX 1⟩))
    have HS0:=Aside0.mk (HS0.out.step (HS0.out.sz HB.out).size (below_drew (Below.refl _ _)))
    have HX0:=Aside0.mk (blk_drew HX0.out)
    go_region_held3 (fun w' =>w'.cell? ⟨w.heap.size,0,none⟩=some (.int .i64 f.f0)∧w'.cell? ⟨w.heap.size,1,none⟩=some (.string f.f1))
     (first | (with_reducible exact SX.out _ HX0.out) | (with_reducible exact SX.out _ HX1.out))
     (first | (go_at_call 123;refine (K.out _).mono ?_;rintro e w1 ⟨rfl,hD⟩;have HS0:=Aside0.mk (HS0.out.step (HS0.out.sz HB.out).size hD.below);have HX0:=Aside0.mk (blk_below HX0.out hD.below);clear hD) | (go_at_call 122;refine (wr_str HB.out HLEN.out HS0.out HEQ0.out).mono ?_;rintro e w2 ⟨rfl,h1,h2,h3⟩;have HS1:=Aside0.mk h1;have HEQ1:=Aside0.mk h3;have HX1:=Aside0.mk (ok_box h2 HX0.out (by decide) hbg);clear h1 h2 h3))
    clear SX
    go_wp2_with (first | (go_at_call 125;refine (wr_byte 40 HB.out HLEN.out HS1.out HEQ1.out).mono ?_;rintro e w3 ⟨rfl,h1,h2,h3⟩;have HS2:=Aside0.mk h1;have HEQ2:=Aside0.mk h3;have HX2:=Aside0.mk (ok_box h2 HX1.out (by decide) hbg);have x2:=blk_cell HX2.out 2;simp at x2;clear h1 h2 h3))
   rotate_left)
  all_goals (
   clear x0 x1 x2 K HX0 HS0 HS1 HEQ0 HEQ1 HX1 hz1 hz2 hz3
   generalize hacc:_++(⟨#[40]⟩:ByteArray)=acc0 at HS2 HEQ2
   clear hacc
   generalize hX:wrP f=X at *
   generalize hR1:kidsW 0 f.f5++⟨#[41]⟩=R1 at *
   go_loopw [68] (fun i w' =>∃(y:Int) (acc:ByteArray),i= .int .i64 y∧0≤y∧y≤f.f2.length∧Aside0 (WrSt w0 w b bs acc w')∧Aside0 (Lib.OthersKept 5 (some b) w3 w')∧Aside0 (acc++(argsW y (f.f2.drop y.toNat)++R1)=X)) (fun i _=>f.f2.length-(intOf i).toNat)
   case atStart=>exact ⟨0,_,rfl,Int.le_refl _,Int.natCast_nonneg _,HS2,⟨Lib.OthersKept.refl _ _ _⟩,HEQ2⟩
   case round =>
    obtain ⟨y,acc,rfl,hy,hyk,HSL,HOL,HQL⟩:=hrel
    clear HS2 HEQ2
    by_cases hyl:y<f.f2.length
    ·obtain ⟨ad,e,x0,x1,x2⟩:=at_T59 FV.out.a y hy hyl
     cases e
     have hBq:=HSL.out.sz HB.out
     replace x0:=(hBq.cell (World.block_lt_of_cell? w0 _ x0)).trans x0
     replace x1:=(hBq.cell (World.block_lt_of_cell? w0 _ x1)).trans x1
     replace x2:=(hBq.cell (World.block_lt_of_cell? w0 _ x2)).trans x2
     have p1:=eq_true hy
     have q1:=eq_true hyl
     have hdr:f.f2.drop y.toNat=rd_T59 f.f2 y::f.f2.drop (y+1).toNat:=drop_get z59 f.f2 y hy hyl
     have hrr:=HR.out (rd_T59 f.f2 y) (mem_get z59 f.f2 y hy hyl)
     generalize rd_T59 f.f2 y=r at *
     have HQ0:Aside0 (acc++(sepB y++(refB r++(argsW (y+1) (f.f2.drop (y+1).toNat)++R1)))=X):=⟨by have h:=HQL.out;rw[hdr,argsW,bassoc,bassoc]at h;exact h⟩
     clear HQL hdr
     have HS:=Aside0.mk (HSL.out.step hBq.size (below_alloc (Below.refl _ _) (.cells #[.int .i64 r.f0,.int .i64 r.f1,.string r.f2] 59)))
     have HXA:=Aside0.mk (blk_new wr (.cells #[.int .i64 r.f0,.int .i64 r.f1,.string r.f2] 59))
     have HO:=Aside0.mk (ok_below HOL.out (below_alloc (Below.refl _ _) (.cells #[.int .i64 r.f0,.int .i64 r.f1,.string r.f2] 59)))
     have hgb:wr.heap.size≠b:=by have:=isB_lt HSL.out.ib;omega
     have z0:=blk_cell HXA.out 0
     have z1:=blk_cell HXA.out 1
     have z2:=blk_cell HXA.out 2
     simp at z0 z1 z2
     generalize hR2:argsW (y+1) (f.f2.drop (y+1).toNat)++R1=R2 at *
     replace hR2:=Aside0.mk hR2
     have HI:=Aside0.mk (fun (W:World) (hW:Below w0.heap.size w0 W)=>itoa_calls T r.f1 W hrr.1 hrr.2 (HT.out.below hW))
     clear HSL HOL hBq hrr
     have hs:=sep_cases y
     have hk:=ref_cases r
     rcases hk with ⟨b1,hk⟩ | ⟨b1,b3,hk⟩ | ⟨b1,b3,b4,hk⟩ | ⟨b1,b3,b4,hk⟩
     all_goals (
      rw[hk]at HQ0
      clear hk
      try have hz:(9223372036854775807<1+(itoaB r.f1).size)=False:=eq_false (by have h:=piece_len (acc:=acc++sepB y) (by rw[bassoc];exact HQ0.out) HLEN.out;simp only[ByteArray.size_append]at h;have:(⟨#[35]⟩:ByteArray).size=1:=rfl;have:(⟨#[64]⟩:ByteArray).size=1:=rfl;omega)
      rcases hs with ⟨py,hs⟩ | ⟨py,hs⟩
      all_goals (
       rw[hs]at HQ0
       clear hs
       try (have HQ:=Aside0.mk (show acc++(_++R2)=X from by have h:=HQ0.out;rw[bnil]at h;exact h);clear HQ0)
       go_wp2_with (first | (go_at_call 122;refine (wr_str HB.out HLEN.out HS.out HQ0.out).mono ?_;rintro e w5 ⟨rfl,h1,h2,h3⟩;have HS:=Aside0.mk h1;have HQ:=Aside0.mk h3;have HO:=Aside0.mk (HO.out.trans h2);have HXB:=Aside0.mk (ok_box h2 HXA.out (by decide) hgb);have k0:=blk_cell HXB.out 0;have k1:=blk_cell HXB.out 1;have k2:=blk_cell HXB.out 2;simp at k0 k1 k2;clear h1 h2 h3 HQ0) | (go_at_call 124;refine (HI.out _ (HS.out.sz HB.out)).mono ?_;rintro e w6 ⟨rfl,hD⟩;have HO:=Aside0.mk (ok_below HO.out hD);have HS:=Aside0.mk (HS.out.step (HS.out.sz HB.out).size hD);clear hD) | (go_at_call 122;refine (wr_str HB.out HLEN.out HS.out HQ.out).mono ?_;rintro e w7 ⟨rfl,h1,h2,h3⟩;have HS:=Aside0.mk h1;have HQ:=Aside0.mk h3;have HO:=Aside0.mk (HO.out.trans h2);clear h1 h2 h3))
       go_roundw
       case rel=>exact ⟨y+1,_,rfl,by omega,by omega,HS,HO,⟨by rw[hR2.out];exact HQ.out⟩⟩
       case measure=>simp[intOf];omega))
    ·have HQ5:Aside0 (acc++R1=X):=⟨by have h:=HQL.out;rw[List.drop_eq_nil_of_le (by omega),argsW,bnil]at h;exact h⟩
     have HX5:=Aside0.mk (ok_box HOL.out HX2.out (by decide) hbg)
     have x5:=blk_cell HX5.out 5
     simp at x5
     clear HQL HX2 HOL
     go_wp2
     clear x5 HX5
     generalize wr=w9 at *
     generalize acc=acc9 at *
     subst hR1
     go_loopw [110] (fun i w' =>∃(y:Int) (acc:ByteArray),i= .int .i64 y∧0≤y∧y≤f.f5.length∧Aside0 (WrSt w0 w b bs acc w')∧Aside0 (acc++(kidsW y (f.f5.drop y.toNat)++⟨#[41]⟩)=X)) (fun i _=>f.f5.length-(intOf i).toNat)
     case atStart=>exact ⟨0,_,rfl,Int.le_refl _,Int.natCast_nonneg _,HSL,HQ5⟩
     case round =>
      clear HSL HQ5
      obtain ⟨y,acc,rfl,hy,hyk,HSL,HQL⟩:=hrel
      by_cases hyl:y<f.f5.length
      ·obtain ⟨ad,B2,d2,B5,d5,e,x0,x1,x2,x3,x4,x5,l2,g2,l5,g5⟩:=at_T37 FV.out.k y hy hyl
       cases e
       have hBq:=HSL.out.sz HB.out
       replace x0:=(hBq.cell (World.block_lt_of_cell? w0 _ x0)).trans x0
       replace x1:=(hBq.cell (World.block_lt_of_cell? w0 _ x1)).trans x1
       replace x2:=(hBq.cell (World.block_lt_of_cell? w0 _ x2)).trans x2
       replace x3:=(hBq.cell (World.block_lt_of_cell? w0 _ x3)).trans x3
       replace x4:=(hBq.cell (World.block_lt_of_cell? w0 _ x4)).trans x4
       replace x5:=(hBq.cell (World.block_lt_of_cell? w0 _ x5)).trans x5
       have p1:=eq_true hy
       have q1:=eq_true hyl
       have hdr:f.f5.drop y.toNat=rd_T37 f.f5 y::f.f5.drop (y+1).toNat:=drop_get z37 f.f5 y hy hyl
       have hmm:rd_T37 f.f5 y∈f.f5:=mem_get z37 f.f5 y hy hyl
       generalize rd_T37 f.f5 y=kid at *
       have FK:Aside0 (FmC w0 kid B2 d2 B5 d5):=⟨⟨l2,g2,l5,g5⟩⟩
       have HQ0:Aside0 (acc++(sepB y++(wrP kid++(kidsW (y+1) (f.f5.drop (y+1).toNat)++⟨#[41]⟩)))=X):=⟨by have h:=HQL.out;rw[hdr,kidsW,bassoc,bassoc]at h;exact h⟩
       clear HQL hdr l2 g2 l5 g5
       have HS:=Aside0.mk (HSL.out.step hBq.size (below_alloc (Below.refl _ _) (.cells #[.int .i64 kid.f0,.string kid.f1,.slice B2 kid.f2.length d2,.int .i64 kid.f3,.int .i64 kid.f4,.slice B5 kid.f5.length d5] 37)))
       have HXA:=Aside0.mk (blk_new wr (.cells #[.int .i64 kid.f0,.string kid.f1,.slice B2 kid.f2.length d2,.int .i64 kid.f3,.int .i64 kid.f4,.slice B5 kid.f5.length d5] 37))
       have hgb:wr.heap.size≠b:=by have:=isB_lt HSL.out.ib;omega
       have z0:=blk_cell HXA.out 0
       have z1:=blk_cell HXA.out 1
       have z2:=blk_cell HXA.out 2
       have z3:=blk_cell HXA.out 3
       have z4:=blk_cell HXA.out 4
       have z5:=blk_cell HXA.out 5
       simp at z0 z1 z2 z3 z4 z5
       generalize hR2:kidsW (y+1) (f.f5.drop (y+1).toNat)++⟨#[41]⟩=R2 at *
       replace hR2:=Aside0.mk hR2
       have HI:=Aside0.mk (fun (W:World) (ac:ByteArray) (hS:WrSt w0 w b bs ac W) (hq:ac++(wrP kid++R2)=X)=>IH.out kid W (bs++Lib.strCells ac) B2 d2 B5 d5 hmm FK.out (hS.sz HB.out) hS.ib (by have h:=piece_len hq HLEN.out;simp[Lib.strCells_length];have h2:=HLEN.out;rw[←hq,ByteArray.size_append,ByteArray.size_append]at h2;omega))
       clear HSL hBq FK hmm
       have hs:=sep_cases y
       rcases hs with ⟨py,hs⟩ | ⟨py,hs⟩
       all_goals (
        rw[hs]at HQ0
        clear hs
        try (have HQ:=Aside0.mk (show acc++(wrP kid++R2)=X from by have h:=HQ0.out;rw[bnil]at h;exact h);clear HQ0)
        go_wp2_with (first | (go_at_call 122;refine (wr_str HB.out HLEN.out HS.out HQ0.out).mono ?_;rintro e w5 ⟨rfl,h1,h2,h3⟩;have HS:=Aside0.mk h1;have HQ:=Aside0.mk h3;have HXB:=Aside0.mk (ok_box h2 HXA.out (by decide) hgb);have k0:=blk_cell HXB.out 0;have k1:=blk_cell HXB.out 1;have k2:=blk_cell HXB.out 2;have k3:=blk_cell HXB.out 3;have k4:=blk_cell HXB.out 4;have k5:=blk_cell HXB.out 5;simp at k0 k1 k2 k3 k4 k5;clear h1 h2 h3 HQ0) | (go_at_call 75;refine (HI.out _ _ HS.out HQ.out).mono ?_;rintro e w6 ⟨rfl,h1⟩;have HS:=Aside0.mk (wr_kid HS.out h1);clear h1))
        go_roundw
        case rel=>exact ⟨y+1,_,rfl,by omega,by omega,HS,⟨by rw[hR2.out,bassoc];exact HQ.out⟩⟩
        case measure=>simp[intOf];omega)
      ·have HQ6:Aside0 (acc++((⟨#[41]⟩:ByteArray)++⟨#[]⟩)=X):=⟨by have h:=HQL.out;rw[List.drop_eq_nil_of_le (by omega),kidsW,bnil]at h;rw[←h];congr 1⟩
       clear HQL
       go_wp2_with (go_at_call 125;refine (wr_byte 41 HB.out HLEN.out HSL.out HQ6.out).mono ?_;rintro e w8 ⟨rfl,h1,h2,h3⟩;have HSZ:=Aside0.mk h1;have HQ7:=Aside0.mk h3;clear h1 h2 h3)
       go_end0
       refine ⟨rfl,?_⟩
       have he:=HQ7.out
       rw[show (acc++⟨#[41]⟩++⟨#[]⟩)=acc++(⟨#[41]⟩:ByteArray)by apply ByteArray.ext;simp[ByteArray.data_append]]at he
       rw[hX,←he]
       exact HSZ.out)
mutual
/-- Formulas that write is asked for: no During, no index below zero. -/
def wrOk:S37→Bool
 |⟨op,nm,ar,_,_,ks⟩=> !(op == 10) && decide (nm.size≤2000000) && decide (ar.length≤2000000) && decide (ks.length≤2000000) && ar.all (fun r=>decide (0≤r.f1∧r.f1≤9223372036854775807)) && wrOkL ks
def wrOkL:List S37→Bool
 | []=>true
 |k::r=>wrOk k && wrOkL r
end
theorem wrOk_parts (f:S37) (h:wrOk f=true):f.f0≠10∧f.f1.size≤2000000∧f.f2.length≤2000000∧f.f5.length≤2000000∧(∀r∈f.f2,0≤r.f1∧r.f1≤9223372036854775807)∧wrOkL f.f5=true:=by
 cases f
 simp only[wrOk,Bool.and_eq_true,Bool.not_eq_true',beq_eq_false_iff_ne,decide_eq_true_eq]at h
 exact ⟨h.1.1.1.1.1,h.1.1.1.1.2,h.1.1.1.2,h.1.1.2,fun r hr=>of_decide_eq_true (List.all_eq_true.1 h.1.2 r hr),h.2⟩
theorem wrOkL_mem:∀{l:List S37},wrOkL l=true→∀{x},x∈l→wrOk x=true
 |t::r,h,x,hx=>by
  rw[wrOkL,Bool.and_eq_true]at h
  rcases List.mem_cons.1 hx with rfl | hx
  ·exact h.1
  ·exact wrOkL_mem h.2 hx
theorem sizeOf_mem {l:List S37} {x:S37} (h:x∈l):SizeOf.sizeOf x<SizeOf.sizeOf l:=List.sizeOf_lt_of_mem h
theorem write_aux (T:Lib.PrintTabs) (w0:World) (b:Nat) (hT:Tabs T w0):∀(n:Nat) (f:S37),SizeOf.sizeOf f≤n→wrOk f=true→∀(w:World) (bs:List Value) (A2:Option Addr) (c2:Nat) (A5:Option Addr) (c5:Nat),FmC w0 f A2 c2 A5 c5→Below w0.heap.size w0 w→Lib.IsBuilder 111 5 w0.heap.size b bs w→bs.length+(wrP f).size≤1099511627776 →
  Calls Tryz.prog 75 #[.pointer (some ⟨b,0,none⟩),.agg #[.int .i64 f.f0,.string f.f1,.slice A2 f.f2.length c2,.int .i64 f.f3,.int .i64 f.f4,.slice A5 f.f5.length c5]] w (WrRet w0 b bs f w)
 |0,f,hn,_=>absurd hn (by cases f;simp)
 |n+1,f,hn,hok=>fun w bs A2 c2 A5 c5 fv hB hb hlen=>by
  obtain ⟨h1,h0,h2,h3,h4,h5⟩:=wrOk_parts f hok
  exact write_step T f w0 w b bs A2 c2 A5 c5 fv hT hB hb hlen h1 h0 h2 h3 h4 (fun x W cs B2 d2 B5 d5 hx hv hW hi hl=>write_aux T w0 b hT n x (by
   have:=sizeOf_mem hx
   have:SizeOf.sizeOf f.f5<SizeOf.sizeOf f:=by cases f;simp;omega
   omega) (wrOkL_mem h5 hx) W cs B2 d2 B5 d5 hv hW hi hl)
theorem ib_nil {B b:Nat} {s:ByteArray} {w:World} (h:Lib.IsBuilder 111 5 B b ([]++Lib.strCells s) w):Lib.IsBuilder 111 5 B b (Lib.byteCells s.data.toList) w:=by
 rwa [List.nil_append,Lib.strCells_eq]at h
set_option maxHeartbeats 2000000 in
set_option maxRecDepth 100000 in
/-- formula.Text. -/
theorem text_calls (T:Lib.PrintTabs) (f:S37) (w:World) (A2:Option Addr) (c2:Nat) (A5:Option Addr) (c5:Nat) (fv:FmC w f A2 c2 A5 c5) (hT:Tabs T w) (hok:wrOk f=true) (hlen:(wrP f).size≤1099511627776) :
  Calls Tryz.prog 39 #[.agg #[.int .i64 f.f0,.string f.f1,.slice A2 f.f2.length c2,.int .i64 f.f3,.int .i64 f.f4,.slice A5 f.f5.length c5]] w fun e w' =>e= .returned (.string (wrP f))∧Below w.heap.size w w' :=by
 have HB0:=Aside0.mk (below_alloc (Below.refl w.heap.size w) (.cells #[.int .i64 f.f0,.string f.f1,.slice A2 f.f2.length c2,.int .i64 f.f3,.int .i64 f.f4,.slice A5 f.f5.length c5] 37))
 have HB1:=Aside0.mk (below_alloc (Below.refl (w.alloc (.cells #[.int .i64 f.f0,.string f.f1,.slice A2 f.f2.length c2,.int .i64 f.f3,.int .i64 f.f4,.slice A5 f.f5.length c5] 37)).heap.size (w.alloc (.cells #[.int .i64 f.f0,.string f.f1,.slice A2 f.f2.length c2,.int .i64 f.f3,.int .i64 f.f4,.slice A5 f.f5.length c5] 37))) (.cells #[.pointer none,.slice none 0 0] 111))
 have HX:=Aside0.mk (blk_alloc (blk_new w (.cells #[.int .i64 f.f0,.string f.f1,.slice A2 f.f2.length c2,.int .i64 f.f3,.int .i64 f.f4,.slice A5 f.f5.length c5] 37)) (.cells #[.pointer none,.slice none 0 0] 111))
 have C:=Aside0.mk (write_aux T (w.alloc (.cells #[.int .i64 f.f0,.string f.f1,.slice A2 f.f2.length c2,.int .i64 f.f3,.int .i64 f.f4,.slice A5 f.f5.length c5] 37)) (w.alloc (.cells #[.int .i64 f.f0,.string f.f1,.slice A2 f.f2.length c2,.int .i64 f.f3,.int .i64 f.f4,.slice A5 f.f5.length c5] 37)).heap.size (hT.below HB0.out) (SizeOf.sizeOf f) f (Nat.le_refl _) hok ((w.alloc (.cells #[.int .i64 f.f0,.string f.f1,.slice A2 f.f2.length c2,.int .i64 f.f3,.int .i64 f.f4,.slice A5 f.f5.length c5] 37)).alloc (.cells #[.pointer none,.slice none 0 0] 111)) [] A2 c2 A5 c5 (fv.below HB0.out) HB1.out (Lib.fresh_isBuilder 111 5 (w.alloc (.cells #[.int .i64 f.f0,.string f.f1,.slice A2 f.f2.length c2,.int .i64 f.f3,.int .i64 f.f4,.slice A5 f.f5.length c5] 37))) (by simpa using hlen))
 have HE1:=Aside0.mk (show (w.alloc (.cells #[.int .i64 f.f0,.string f.f1,.slice A2 f.f2.length c2,.int .i64 f.f3,.int .i64 f.f4,.slice A5 f.f5.length c5] 37)).heap.size=w.heap.size+1 by simp)
 rw[HE1.out]at C HB1
 clear fv hT hok
 have x0:=blk_cell HX.out 0
 have x1:=blk_cell HX.out 1
 have x2:=blk_cell HX.out 2
 have x3:=blk_cell HX.out 3
 have x4:=blk_cell HX.out 4
 have x5:=blk_cell HX.out 5
 simp at x0 x1 x2 x3 x4 x5
 go_enter Tryz.func39,Tryz.ntmps39
 go_wp2_with (first | (go_at_call 75;go_loud (refine C.out.mono ?_);rintro e w3 ⟨rfl,hS⟩;have hib:=ib_nil hS.ib;have hsb:=hS.below;rw[HE1.out]at hib hsb;have HIB:=Aside0.mk hib;have HSB:=Aside0.mk hsb;clear hS hib hsb) | (go_at_call 76;go_loud (refine (Tryz.Builder_String_any (w.heap.size+1) (w.heap.size+1) (wrP f).data.toList w3 HIB.out (by have h1:=HSB.out.size;have h2:=HB1.out.size;rw[HE1.out]at h2;omega)).mono ?_);rintro e w4 ⟨rfl,hB⟩;have HBZ:=Aside0.mk hB;clear hB))
 go_ret
 refine ⟨rfl,(HB0.out.trans ((HB1.out.trans (HSB.out.trans HBZ.out)).mono (by simp)))⟩
def IsT (w:World) (t:S30) (v:Value):Prop:=∃A1 c1 A2 c2,v= .agg #[.string t.f0,.slice A1 t.f1.length c1,.slice A2 t.f2.length c2]∧TreeV w t A1 c1 A2 c2
def IsL (w:World) (l:List S30) (v:Value):Prop:=∃A c,v= .slice A l.length c∧l.length≤c∧k30.C w A l.length l
theorem IsT.below {w w' :World} {t:S30} {v:Value} (h:IsT w t v) (hB:Below w.heap.size w w'):IsT w' t v:=by
 obtain ⟨A1,c1,A2,c2,e,h⟩:=h
 exact ⟨A1,c1,A2,c2,e,h.below hB⟩
theorem IsL.below {w w' :World} {l:List S30} {v:Value} (h:IsL w l v) (hB:Below w.heap.size w w'):IsL w' l v:=by
 obtain ⟨A,c,e,h1,h2⟩:=h
 exact ⟨A,c,e,h1,Kd.C_below h2 hB⟩
theorem IsL.nil (w:World):IsL w [] (.slice none 0 0):=⟨none,0,rfl,Nat.le_refl _,Kd.C_nil _ _⟩
theorem TreeV.kcells {w:World} {t:S30} {A1:Option Addr} {c1:Nat} {A2:Option Addr} {c2:Nat} (h:TreeV w t A1 c1 A2 c2):k30.K w t [.string t.f0,.slice A1 t.f1.length c1,.slice A2 t.f2.length c2]:=k30_mk w t h.l1 h.v h.l2 h.k
theorem isL_blk {W:World} {g:Nat} (l:List S30) (cs:List Value) (hg:W.heap[g]? =some (.cells cs.toArray 30)) (hR:Reps (fun x c=>k30.K W x c) 3 l cs) (hn:l.length≤1000):IsL W l (.slice (some ⟨g,0,none⟩) l.length l.length):=by
 obtain ⟨A,c,he,hC⟩:=own_reads_row (block_own (size:=3) (n:=l.length) hg (by rw[hR.1]) (by omega)) hR rfl
 injection he with he1 he2 he3
 subst he1
 exact ⟨_,_,rfl,Nat.le_refl _,hC⟩
theorem reps1 {W:World} {t:S30} {cs:List Value} (h:k30.K W t cs):Reps (fun x c=>k30.K W x c) 3 [t] cs:=by
 have hl:cs.length=3:=by
  obtain ⟨A1,c1,A2,c2,rfl,_⟩:=k30_open h
  rfl
 have h:=(Reps.none (fun (x:S30) c=>k30.K W x c) 3).snoc h hl
 simpa using h
theorem isL1 {w:World} {t:S30} {A1:Option Addr} {c1:Nat} {A2:Option Addr} {c2:Nat} (h:TreeV w t A1 c1 A2 c2):IsL (w.alloc (.cells #[.string t.f0,.slice A1 t.f1.length c1,.slice A2 t.f2.length c2] 30)) [t] (.slice (some ⟨w.heap.size,0,none⟩) 1 1) :=
 isL_blk [t] [.string t.f0,.slice A1 t.f1.length c1,.slice A2 t.f2.length c2] (heap_alloc_new w _) (reps1 (h.below (below_alloc (Below.refl _ _) _)).kcells) (by simp)
theorem isL2 {w:World} {t u:S30} {A1:Option Addr} {c1:Nat} {A2:Option Addr} {c2:Nat} {B1:Option Addr} {d1:Nat} {B2:Option Addr} {d2:Nat} (h:TreeV w t A1 c1 A2 c2) (k:TreeV w u B1 d1 B2 d2) :
  IsL (w.alloc (.cells #[.string t.f0,.slice A1 t.f1.length c1,.slice A2 t.f2.length c2,.string u.f0,.slice B1 u.f1.length d1,.slice B2 u.f2.length d2] 30)) [t,u] (.slice (some ⟨w.heap.size,0,none⟩) 2 2) :=
 isL_blk [t,u] [.string t.f0,.slice A1 t.f1.length c1,.slice A2 t.f2.length c2,.string u.f0,.slice B1 u.f1.length d1,.slice B2 u.f2.length d2] (heap_alloc_new w _) (Kd.reps_append (reps1 (h.below (below_alloc (Below.refl _ _) _)).kcells) (reps1 (k.below (below_alloc (Below.refl _ _) _)).kcells)) (by simp)
theorem isI1 (w:World) (n:Int):(Kd.int .i64).C (w.alloc (.cells #[.int .i64 n] 3)) (some ⟨w.heap.size,0,none⟩) 1 [n]:=by
 obtain ⟨A,c,he,hC⟩:=own_reads_row (R:=fun (x:Int) (cs:List Value)=>cs=[.int .i64 x]) (block_own (w:=w.alloc (.cells #[.int .i64 n] 3)) (cs:=[.int .i64 n]) (size:=1) (n:=1) (heap_alloc_new w _) (by simp) (by omega)) (Kd.reps_scalar (enc:=Value.int .i64) [n]) rfl
 injection he with he1 he2 he3
 subst he1
 exact hC
set_option maxHeartbeats 2000000 in
set_option maxRecDepth 100000 in
/-- tree (32): a tree without values. -/
theorem tree_callsT (nm:ByteArray) (l:List S30) (v:Value) (w:World) (h:IsL w l v):Calls Tryz.prog 32 #[.string nm,v] w fun e w' =>∃u,e= .returned u∧IsT w' ⟨nm,[],l⟩ u∧Below w.heap.size w w' :=by
 obtain ⟨A,c,rfl,hl,hC⟩:=h
 have HC:=Aside0.mk hC
 clear hC
 go_enter Tryz.func32,Tryz.ntmps32
 go_wp2
 refine bodyPost_ret (results_single rfl (.cell w.heap.size 30 _ (0,0) _ rfl (blk_new w (.cells #[.string nm,.slice none 0 0,.slice A l.length c] 30)) Tryz.underlying30 rfl (by kernel_rfl) .nil)) rfl ?_
 have hB:=below_alloc (Below.refl w.heap.size w) (.cells #[.string nm,.slice none 0 0,.slice A l.length c] 30)
 exact ⟨_,rfl,⟨none,0,A,c,rfl,Nat.le_refl _,Kd.C_nil _ _,hl,Kd.C_below HC.out hB⟩,hB⟩
section
attribute [local go_sem] Oper.semAt_some
def At37 (w:World) (g:Nat) (o:Except Int S70):Prop:=match o with
 |.ok m=>∃A2 c2 A5 c5,w.heap[g]? =some (.cells #[.int .i64 m.f0.f0,.string m.f0.f1,.slice A2 m.f0.f2.length c2,.int .i64 m.f0.f3,.int .i64 m.f0.f4,.slice A5 m.f0.f5.length c5] 37 (0,0))∧FmC w m.f0 A2 c2 A5 c5
 |.error _=>w.heap[g]? =some (.cells #[.int .i64 0,.string ⟨#[]⟩,.slice none 0 0,.int .i64 0,.int .i64 0,.slice none 0 0] 37 (0,0))
def AtT (w:World) (g:Nat) (t:S30):Prop:=∃A1 c1 A2 c2,w.heap[g]? =some (.cells #[.string t.f0,.slice A1 t.f1.length c1,.slice A2 t.f2.length c2] 30 (0,0))∧TreeV w t A1 c1 A2 c2
theorem AtT.below {w w' :World} {g:Nat} {t:S30} (h:AtT w g t) (hB:Below w.heap.size w w'):AtT w' g t:=by
 obtain ⟨A1,c1,A2,c2,h1,h2⟩:=h
 exact ⟨A1,c1,A2,c2,blk_below h1 hB,h2.below hB⟩
theorem At37.below {w w' :World} {g:Nat} {o:Except Int S70} (h:At37 w g o) (hB:Below w.heap.size w w'):At37 w' g o:=by
 cases o with
 |error c=>exact blk_below h hB
 |ok m =>
  obtain ⟨A1,c1,A2,c2,h1,h2⟩:=h
  exact ⟨A1,c1,A2,c2,blk_below h1 hB,h2.below hB⟩
def AtS (w:World) (g:Nat) (s:Sg):Prop:=w.heap[g]? =some (.cells #[.slice s.A0 s.ss.length s.c0,.slice s.A1 s.cs.length s.c1,.slice s.A2 s.ps.length s.c2] 26 (0,0))∧s.C w
theorem AtS.below {w w' :World} {g:Nat} {s:Sg} (h:AtS w g s) (hB:Below w.heap.size w w'):AtS w' g s:=⟨blk_below h.1 hB,SigC.below h.2 hB⟩
def sgV (s:Sg):Value:= .agg #[.slice s.A0 s.ss.length s.c0,.slice s.A1 s.cs.length s.c1,.slice s.A2 s.ps.length s.c2]
def IsF (w:World) (ok:Nat→Prop) (o:Except Int S70) (v:Value):Prop:=match o with
 |.ok m=>FmV w ok v m
 |.error _=>v=zeroF
def codeOf (o:Except Int S70):Int:=match o with | .ok _=>0 | .error c=>c
theorem FmV.step {w w1:World} {ok:Nat→Prop} {v:Value} {m:S70} (h:FmV w ok v m) (hm:∀k,ok k→k<w.heap.size→w1.heap[k]? =w.heap[k]?):FmV w1 ok v m:=by
 obtain ⟨A2,c2,A5,c5,e,l2,g2,l5,g5⟩:=h
 exact ⟨A2,c2,A5,c5,e,l2,Kd.F_step g2 hm,l5,Kd.F_step g5 hm⟩
theorem FmV.mono {w:World} {ok ok' :Nat→Prop} {v:Value} {m:S70} (h:FmV w ok v m) (hi:∀k,ok k→k<w.heap.size→ok' k):FmV w ok' v m:=by
 obtain ⟨A2,c2,A5,c5,e,l2,g2,l5,g5⟩:=h
 exact ⟨A2,c2,A5,c5,e,l2,Kd.F_mono (Kd.F_bound g2) (fun k hk=>hi k hk.1 hk.2),l5,Kd.F_mono (Kd.F_bound g5) (fun k hk=>hi k hk.1 hk.2)⟩
theorem IsF.step {w w' :World} {ok:Nat→Prop} {o:Except Int S70} {v:Value} (h:IsF w ok o v) (hm:∀k,ok k→k<w.heap.size→w'.heap[k]? =w.heap[k]?):IsF w' ok o v:=by
 cases o with
 |error c=>exact h
 |ok m=>exact FmV.step h hm
theorem IsF.below {w w' :World} {ok:Nat→Prop} {o:Except Int S70} {v:Value} (h:IsF w ok o v) (hB:Below w.heap.size w w'):IsF w' ok o v:=h.step (fun k _ hk=>hB.block k hk)
theorem IsF.mono {w:World} {ok ok' :Nat→Prop} {o:Except Int S70} {v:Value} (h:IsF w ok o v) (hi:∀k,ok k→k<w.heap.size→ok' k):IsF w ok' o v:=by
 cases o with
 |error c=>exact h
 |ok m=>exact FmV.mono h hi
def zero37:Obj:= .cells #[.int .i64 0,.string ⟨#[]⟩,.slice none 0 0,.int .i64 0,.int .i64 0,.slice none 0 0] 37 (0,0)
def IsI (w:World) (n:Int) (v:Value):Prop:=∃A c,v= .slice A 1 c∧1≤c∧(Kd.int .i64).C w A 1 [n]
theorem IsI.below {w w' :World} {n:Int} {v:Value} (h:IsI w n v) (hB:Below w.heap.size w w'):IsI w' n v:=by
 obtain ⟨A,c,e,h1,h2⟩:=h
 exact ⟨A,c,e,h1,Kd.C_below h2 hB⟩
section
variable {ops:Array Oper} {Q:Exit→Act→World→Prop} {md:Region.Mode} {i:Nat} {o:Oper} {J:Act→World→Prop} {a:Act} {w:World}
theorem op_tree {nm:ByteArray} {l:List S30} {k:Tmp} {v:Value} (hi:ops[i]? =some o) (hg:o.guard=none) (ho:o.op= .call {callee:= .value (.func 32),args:= #[.const (.string nm),.tmp k],argTypes:= #[9,28]}) (ha:a.tmps[k]?.getD undef=v) (hv:IsL w l v)
  (h:∀u w',IsT w' ⟨nm,[],l⟩ u→Below w.heap.size w w' →J (a.put o.dst u) w'):wpOp Tryz.prog ops Q i J a w:=by
 refine op_call (f:=32) (args:= #[.string nm,v]) hi (wanted_none hg) ?_ ((tree_callsT nm l v w hv).mono ?_)
 ·have he:=enters_of Tryz.func32 (by kernel_rfl) rfl #[.string nm,v] w
  unfold execOp
  rw[ho]
  go_simp
 ·rintro e w' ⟨u,rfl,hu,hB⟩
  exact ⟨u,rfl,h u w' hu hB⟩
theorem op_leaf {nm:ByteArray} (hi:ops[i]? =some o) (hg:o.guard=none) (ho:o.op= .call {callee:= .value (.func 32),args:= #[.const (.string nm),.const (.slice none 0 0)],argTypes:= #[9,28]})
  (h:∀u w',IsT w' ⟨nm,[],[]⟩ u→Below w.heap.size w w' →J (a.put o.dst u) w'):wpOp Tryz.prog ops Q i J a w:=by
 refine op_call (f:=32) (args:= #[.string nm,.slice none 0 0]) hi (wanted_none hg) ?_ ((tree_callsT nm [] _ w (IsL.nil w)).mono ?_)
 ·have he:=enters_of Tryz.func32 (by kernel_rfl) rfl #[.string nm,.slice none 0 0] w
  unfold execOp
  rw[ho]
  go_simp
 ·rintro e w' ⟨u,rfl,hu,hB⟩
  exact ⟨u,rfl,h u w' hu hB⟩
theorem op_row1 {t:S30} {k:Tmp} {v:Value} (hi:ops[i]? =some o) (hg:o.guard=none) (ho:o.op= .buildSlice 28 1 #[(0,.tmp k)]) (ha:a.tmps[k]?.getD undef=v) (hv:IsT w t v)
  (h:∀u w',IsL w' [t] u→Below w.heap.size w w' →J (a.put o.dst u) w'):wpOp Tryz.prog ops Q i J a w:=by
 obtain ⟨A1,c1,A2,c2,rfl,hT⟩:=hv
 refine op_value hi (wanted_none hg) ?_ (h _ _ (isL1 hT) (below_alloc (Below.refl _ _) _))
 unfold execOp
 rw[ho]
 go_simp
theorem op_row2 {t u:S30} {k k2:Tmp} {v v2:Value} (hi:ops[i]? =some o) (hg:o.guard=none) (ho:o.op= .buildSlice 28 2 #[(0,.tmp k),(1,.tmp k2)]) (ha:a.tmps[k]?.getD undef=v) (ha2:a.tmps[k2]?.getD undef=v2) (hv:IsT w t v) (hv2:IsT w u v2)
  (h:∀x w',IsL w' [t,u] x→Below w.heap.size w w' →J (a.put o.dst x) w'):wpOp Tryz.prog ops Q i J a w:=by
 obtain ⟨A1,c1,A2,c2,rfl,hT⟩:=hv
 obtain ⟨B1,d1,B2,d2,rfl,hU⟩:=hv2
 refine op_value hi (wanted_none hg) ?_ (h _ _ (isL2 hT hU) (below_alloc (Below.refl _ _) _))
 unfold execOp
 rw[ho]
 go_simp
theorem op_loadT {t:S30} {k:Tmp} {g:Nat} (hi:ops[i]? =some o) (hg:o.guard=none) (ho:o.op= .load 30 (.tmp k)) (ha:a.tmps[k]?.getD undef= .pointer (some ⟨g,0,none⟩)) (hh:AtT w g t)
  (h:∀u,IsT w t u→J (a.put o.dst u) w):wpOp Tryz.prog ops Q i J a w:=by
 obtain ⟨A1,c1,A2,c2,hb,hT⟩:=hh
 have x0:=blk_cell hb 0
 have x1:=blk_cell hb 1
 have x2:=blk_cell hb 2
 simp at x0 x1 x2
 refine op_value hi (wanted_none hg) (w' :=w) ?_ (h _ ⟨A1,c1,A2,c2,rfl,hT⟩)
 unfold execOp
 rw[ho]
 go_simp
theorem op_loadS {s:Sg} {k:Tmp} {g:Nat} (hi:ops[i]? =some o) (hg:o.guard=none) (ho:o.op= .load 26 (.tmp k)) (ha:a.tmps[k]?.getD undef= .pointer (some ⟨g,0,none⟩)) (hh:AtS w g s)
  (h:J (a.put o.dst (sgV s)) w):wpOp Tryz.prog ops Q i J a w:=by
 have x0:=blk_cell hh.1 0
 have x1:=blk_cell hh.1 1
 have x2:=blk_cell hh.1 2
 simp at x0 x1 x2
 refine op_value hi (wanted_none hg) (w' :=w) ?_ h
 unfold execOp sgV
 rw[ho]
 go_simp
theorem op_new37 (hi:ops[i]? =some o) (hg:o.guard=none) (ho:o.op= .alloc 37) (h:J (a.put o.dst (.pointer (some ⟨w.heap.size,0,none⟩))) (w.alloc (.cells #[.int .i64 0,.string ⟨#[]⟩,.slice none 0 0,.int .i64 0,.int .i64 0,.slice none 0 0] 37))):wpOp Tryz.prog ops Q i J a w:=by
 refine op_value hi (wanted_none hg) ?_ h
 unfold execOp
 rw[ho]
 go_simp
theorem op_sent {T:Lib.PrintTabs} {s:Sg} {t:S30} {k k2:Tmp} {v:Value} (hi:ops[i]? =some o) (hg:o.guard=none) (ho:o.op= .call {callee:= .value (.func 26),args:= #[.tmp k,.tmp k2],argTypes:= #[26,30]}) (ha:a.tmps[k]?.getD undef=sgV s) (ha2:a.tmps[k2]?.getD undef=v) (hv:IsT w t v) (hT:Tabs T w) (hC:s.C w) (hsm:Sm t) (hn:nodes t≤500)
  (h:∀u w',IsF w' (fun k=>w.heap.size≤k) (senP s t) u→Below w.heap.size w w' →J (a.put o.dst (.tuple #[u,.int .i64 (codeOf (senP s t))])) w'):wpOp Tryz.prog ops Q i J a w:=by
 obtain ⟨A1,c1,A2,c2,rfl,hV⟩:=hv
 refine op_call (f:=26) (args:= #[sgV s,.agg #[.string t.f0,.slice A1 t.f1.length c1,.slice A2 t.f2.length c2]]) hi (wanted_none hg) ?_ ((sentence_calls T s t w A1 c1 A2 c2 hT hC hV hsm hn).mono ?_)
 ·have he:=enters_of Tryz.func26 (by kernel_rfl) rfl #[sgV s,.agg #[.string t.f0,.slice A1 t.f1.length c1,.slice A2 t.f2.length c2]] w
  unfold execOp
  rw[ho]
  go_simp
 ·rintro e w' ⟨hB,hr⟩
  revert h
  cases ho:senP s t with
  |error c =>
   rw[ho]at hr
   intro h
   exact ⟨_,hr,h _ _ rfl hB⟩
  |ok m =>
   rw[ho]at hr
   obtain ⟨v,he,hf⟩:=hr
   intro h
   exact ⟨_,he,h _ _ hf hB⟩
theorem op_noun {s:Sg} {t:S30} {k k2:Tmp} {v:Value} (hi:ops[i]? =some o) (hg:o.guard=none) (ho:o.op= .call {callee:= .value (.func 16),args:= #[.tmp k,.tmp k2],argTypes:= #[26,30]}) (ha:a.tmps[k]?.getD undef=sgV s) (ha2:a.tmps[k2]?.getD undef=v) (hv:IsT w t v) (hC:s.C w) (hsm:Sm t) (hn:nodes t≤500)
  (h:∀u y w',IsF w' (fun k=>w.heap.size≤k) (nouP s t) u→((nouP s t).toOption.isSome=true→sortP s.ps 60 t=some y)→Below w.heap.size w w' →J (a.put o.dst (.tuple #[u,.string y,.int .i64 (codeOf (nouP s t))])) w'):wpOp Tryz.prog ops Q i J a w:=by
 obtain ⟨A1,c1,A2,c2,rfl,hV⟩:=hv
 refine op_call (f:=16) (args:= #[sgV s,.agg #[.string t.f0,.slice A1 t.f1.length c1,.slice A2 t.f2.length c2]]) hi (wanted_none hg) ?_ ((noun_calls s t w A1 c1 A2 c2 hC hV hsm hn).mono ?_)
 ·have he:=enters_of Tryz.func16 (by kernel_rfl) rfl #[sgV s,.agg #[.string t.f0,.slice A1 t.f1.length c1,.slice A2 t.f2.length c2]] w
  unfold execOp
  rw[ho]
  go_simp
 ·rintro e w' ⟨hB,hr⟩
  revert h
  cases ho:nouP s t with
  |error c =>
   rw[ho]at hr
   intro h
   exact ⟨_,hr,h _ _ _ rfl (fun h=>by cases h) hB⟩
  |ok m =>
   rw[ho]at hr
   obtain ⟨v,y,hy,he,hf⟩:=hr
   intro h
   exact ⟨_,he,h _ _ _ hf (fun _=>hy) hB⟩
theorem op_rowI {n:Int} (hi:ops[i]? =some o) (hg:o.guard=none) (ho:o.op= .buildSlice 27 1 #[(0,.const (.int .i64 n))])
  (h:∀u w',IsI w' n u→Below w.heap.size w w' →J (a.put o.dst u) w'):wpOp Tryz.prog ops Q i J a w:=by
 refine op_value hi (wanted_none hg) ?_ (h _ _ ⟨_,1,rfl,Nat.le_refl _,isI1 w n⟩ (below_alloc (Below.refl _ _) _))
 unfold execOp
 rw[ho]
 go_simp
theorem op_bt {nm:ByteArray} {n:Int} {l:List S30} {k k2:Tmp} {v v2:Value} (hi:ops[i]? =some o) (hg:o.guard=none) (ho:o.op= .build 30 #[(0,.const (.string nm)),(1,.tmp k),(2,.tmp k2)]) (ha:a.tmps[k]?.getD undef=v) (ha2:a.tmps[k2]?.getD undef=v2) (hv:IsI w n v) (hv2:IsL w l v2)
  (h:∀u,IsT w ⟨nm,[n],l⟩ u→J (a.put o.dst u) w):wpOp Tryz.prog ops Q i J a w:=by
 obtain ⟨A,c,rfl,hl,hC⟩:=hv
 obtain ⟨A2,c2,rfl,hl2,hC2⟩:=hv2
 refine op_value hi (wanted_none hg) (w' :=w) ?_ (h _ ⟨A,c,A2,c2,rfl,hl,hC,hl2,hC2⟩)
 unfold execOp
 rw[ho]
 go_simp
theorem op_store37 {r:Except Int S70} {k k2:Tmp} {g:Nat} {v:Value} (hi:ops[i]? =some o) (hg:o.guard=none) (hd:o.dst=none) (ho:o.op= .store 37 (.tmp k) (.tmp k2)) (ha:a.tmps[k]?.getD undef= .pointer (some ⟨g,0,none⟩)) (ha2:a.tmps[k2]?.getD undef=v) (hz:w.heap[g]? =some zero37) (hF:IsF w (fun k=>k≠g) r v)
  (h:∀w',At37 w' g r→(∀B,B≤g→Below B w w')→(∀k,k≠g→k<w.heap.size→w'.heap[k]? =w.heap[k]?)→J a w'):wpOp Tryz.prog ops Q i J a w:=by
 have f0:=blk_frozen hz 0
 have f1:=blk_frozen hz 1
 have f2:=blk_frozen hz 2
 have f3:=blk_frozen hz 3
 have f4:=blk_frozen hz 4
 have f5:=blk_frozen hz 5
 have z0:=blk_cell hz 0
 have z1:=blk_cell hz 1
 have z2:=blk_cell hz 2
 have z3:=blk_cell hz 3
 have z4:=blk_cell hz 4
 have z5:=blk_cell hz 5
 simp at z0 z1 z2 z3 z4 z5
 have hput:a.put none undef=a:=rfl
 have hb:∀(a0 a1 a2 a3 a4 a5:Value) (B:Nat),B≤g→Below B w (set6 w g a0 a1 a2 a3 a4 a5):=fun a0 a1 a2 a3 a4 a5 B hB=>(kp_set6 a0 a1 a2 a3 a4 a5).toBelow (by have:=blk_lt hz;omega) (fun k hk=>by omega)
 have hfar:∀(a0 a1 a2 a3 a4 a5:Value) (k:Nat),k≠g→k<w.heap.size→(set6 w g a0 a1 a2 a3 a4 a5).heap[k]? =w.heap[k]? :=fun a0 a1 a2 a3 a4 a5 k hk hlt=>(kp_set6 a0 a1 a2 a3 a4 a5).block k hlt hk
 cases r with
 |error c =>
  obtain rfl:v=zeroF:=hF
  have hh:=h (set6 w g (.int .i64 0) (.string ⟨#[]⟩) (.slice none 0 0) (.int .i64 0) (.int .i64 0) (.slice none 0 0)) (fin6 hz _ _ _ _ _ _) (hb _ _ _ _ _ _) (hfar _ _ _ _ _ _)
  refine wpOp_step hi (fun K hK=> ?_)
  have hk:=hK _ _ hh
  rw[if_pos (wanted_none hg)]
  unfold Oper.wp execOp
  rw[ho]
  unfold zeroF at ha2
  go_simp
  unfold set6 at hk
  exact hk
 |ok m =>
  obtain ⟨A2,c2,A5,c5,rfl,l2,g2,l5,g5⟩:=hF
  have hF' :=fun k (hk:k≠g) (hlt:k<w.heap.size)=>hfar (.int .i64 m.f0.f0) (.string m.f0.f1) (.slice A2 m.f0.f2.length c2) (.int .i64 m.f0.f3) (.int .i64 m.f0.f4) (.slice A5 m.f0.f5.length c5) k hk hlt
  have hh:=h (set6 w g (.int .i64 m.f0.f0) (.string m.f0.f1) (.slice A2 m.f0.f2.length c2) (.int .i64 m.f0.f3) (.int .i64 m.f0.f4) (.slice A5 m.f0.f5.length c5)) ⟨A2,c2,A5,c5,fin6 hz _ _ _ _ _ _,l2,Kd.F_now (Kd.F_step g2 hF'),l5,Kd.F_now (Kd.F_step g5 hF')⟩ (hb _ _ _ _ _ _) (hfar _ _ _ _ _ _)
  refine wpOp_step hi (fun K hK=> ?_)
  have hk:=hK _ _ hh
  rw[if_pos (wanted_none hg)]
  unfold Oper.wp execOp
  rw[ho]
  go_simp
  unfold set6 at hk
  exact hk
end
end
section
attribute [local go_sem] Oper.semAt_some
def fr13 (f:Nat→Value):Act:={tmps:= #[f 0,f 1,f 2,f 3,f 4,f 5,f 6,f 7,f 8,f 9,f 10,f 11,f 12,f 13,f 14,f 15,f 16,f 17,f 18,f 19,f 20,f 21,f 22,f 23,f 24,f 25,f 26,f 27,f 28,f 29,f 30,f 31,f 32,f 33,f 34,f 35,f 36,f 37,f 38,f 39,f 40,f 41,f 42,f 43,f 44,f 45,f 46,f 47,f 48,f 49,f 50,f 51,f 52,f 53,f 54,f 55,f 56,f 57,f 58,f 59,f 60,f 61,f 62,f 63,f 64,f 65,f 66,f 67,f 68,f 69,f 70,f 71,f 72,f 73,f 74,f 75,f 76,f 77,f 78,f 79,f 80,f 81,f 82,f 83,f 84,f 85,f 86,f 87,f 88,f 89,f 90,f 91,f 92,f 93,f 94,f 95,f 96,f 97,f 98,f 99,f 100,f 101,f 102,f 103,f 104,f 105,f 106,f 107,f 108,f 109,f 110,f 111,f 112,f 113,f 114,f 115,f 116,f 117,f 118,f 119,f 120,f 121,f 122,f 123,f 124,f 125],defers:=[]}
def tMarta:S30:=(⟨⟨#[78,97,109,101]⟩,[],[(⟨⟨#[109,97,114,116,97]⟩,[],[]⟩:S30)]⟩:S30)
def tCarry:S30:=(⟨⟨#[65,115,115,101,114,116]⟩,[],[(⟨⟨#[69,118,101,114,121]⟩,[],[(⟨⟨#[78,111,117,110]⟩,[],[(⟨⟨#[112,97,115,115,101,110,103,101,114]⟩,[],[]⟩:S30)]⟩:S30)]⟩:S30),(⟨⟨#[68,111]⟩,[],[(⟨⟨#[99,97,114,114,121]⟩,[],[]⟩:S30),(⟨⟨#[83,111,109,101]⟩,[],[(⟨⟨#[78,111,117,110]⟩,[],[(⟨⟨#[98,97,103]⟩,[],[]⟩:S30)]⟩:S30)]⟩:S30)]⟩:S30)]⟩:S30)
def tSmoke:S30:=(⟨⟨#[77,117,115,116,78,111,116]⟩,[],[tMarta,(⟨⟨#[65,99,116]⟩,[],[(⟨⟨#[115,109,111,107,101]⟩,[],[]⟩:S30)]⟩:S30)]⟩:S30)
def tCapt:S30:=(⟨⟨#[65,115,115,101,114,116]⟩,[],[tMarta,(⟨⟨#[68,111]⟩,[],[(⟨⟨#[99,97,114,114,121]⟩,[],[]⟩:S30),(⟨⟨#[78,97,109,101]⟩,[],[(⟨⟨#[99,97,112,116,97,105,110]⟩,[],[]⟩:S30)]⟩:S30)]⟩:S30)]⟩:S30)
def tWait:S30:=(⟨⟨#[65,115,115,101,114,116]⟩,[],[(⟨⟨#[73,116]⟩,[],[]⟩:S30),(⟨⟨#[65,99,116]⟩,[],[(⟨⟨#[119,97,105,116]⟩,[],[]⟩:S30)]⟩:S30)]⟩:S30)
def tBag:S30:=(⟨⟨#[87,104,111]⟩,[],[(⟨⟨#[78,111,117,110]⟩,[],[(⟨⟨#[98,97,103]⟩,[],[]⟩:S30)]⟩:S30),(⟨⟨#[67,111,115,116]⟩,[30],[(⟨⟨#[99,111,115,116]⟩,[],[]⟩:S30)]⟩:S30)]⟩:S30)
end
section
attribute [local go_sem] Oper.semAt_some
def E13 (r:Except Int S70) (v p:Value) (w:World):Prop:=∀u g,(∃cs:List Value,v= .tuple (u::cs).toArray)→p= .pointer (some ⟨g,0,none⟩)→IsF w (fun k=>k≠g) r u
theorem E13.below {r:Except Int S70} {v p:Value} {w w' :World} (h:E13 r v p w) (hB:Below w.heap.size w w'):E13 r v p w' :=fun u g h1 h2=>(h u g h1 h2).below hB
theorem tuple_head {u u' :Value} {cs cs' :List Value} (h:Value.tuple (u::cs).toArray= .tuple (u' ::cs').toArray):u=u' :=by
 injection h with h
 have:=congrArg Array.toList h
 simp at this
 exact this.1
theorem E13.call {r:Except Int S70} {w w' :World} {u p:Value} {cs:List Value} {B0:Nat} (hu:IsF w' (fun k=>w.heap.size≤k) r u) (hp:∃g,p= .pointer (some ⟨g,0,none⟩)∧B0≤g∧w.heap[g]? =some zero37):E13 r (.tuple (u::cs).toArray) p w' :=by
 obtain ⟨g,rfl,_,hz⟩:=hp
 rintro u' g' ⟨cs',he⟩ hg
 obtain rfl:=tuple_head he
 injection hg with hg
 injection hg with hg
 injection hg with hg
 subst hg
 have:=blk_lt hz
 exact hu.mono (fun k hk _=>by omega)
theorem E13.new {r:Except Int S70} {w:World} {u v:Value} {cs:List Value} (o:Obj) (hv:v= .tuple (u::cs).toArray) (hu:IsF w (fun _=>True) r u):E13 r v (.pointer (some ⟨w.heap.size,0,none⟩)) (w.alloc o):=by
 subst hv
 rintro u' g' ⟨cs',he⟩ hg
 obtain rfl:=tuple_head he
 injection hg with hg
 injection hg with hg
 injection hg with hg
 subst hg
 exact (hu.mono (fun k _ hk=>by omega)).below (below_alloc (Below.refl _ _) o)
section
variable {ops:Array Oper} {Q:Exit→Act→World→Prop} {i:Nat} {o:Oper} {J:Act→World→Prop} {a:Act} {w:World}
theorem op_new26 (hi:ops[i]? =some o) (hg:o.guard=none) (ho:o.op= .alloc 26) (h:J (a.put o.dst (.pointer (some ⟨w.heap.size,0,none⟩))) (w.alloc (.cells #[.slice none 0 0,.slice none 0 0,.slice none 0 0] 26))):wpOp Tryz.prog ops Q i J a w:=by
 refine op_value hi (wanted_none hg) ?_ h
 unfold execOp
 rw[ho]
 go_simp
theorem op_store30 {k k2:Tmp} {g:Nat} {x:ByteArray} {A1 A2:Option Addr} {n1 c1 n2 c2:Nat} {y0 y1 y2:Value} (hi:ops[i]? =some o) (hg:o.guard=none) (hd:o.dst=none) (ho:o.op= .store 30 (.tmp k) (.tmp k2)) (ha:a.tmps[k]?.getD undef= .pointer (some ⟨g,0,none⟩)) (ha2:a.tmps[k2]?.getD undef= .agg #[.string x,.slice A1 n1 c1,.slice A2 n2 c2]) (hz:w.heap[g]? =some (.cells #[y0,y1,y2] 30 (0,0)))
  (h:∀w',w'.heap[g]? =some (.cells #[.string x,.slice A1 n1 c1,.slice A2 n2 c2] 30 (0,0))→(∀B,B≤g→Below B w w')→J a w'):wpOp Tryz.prog ops Q i J a w:=by
 have hh:=h _ (fin3 hz (.string x) (.slice A1 n1 c1) (.slice A2 n2 c2)) (fin3_any (blk_lt hz) _ _ _)
 have f0:=blk_frozen hz 0
 have f1:=blk_frozen hz 1
 have f2:=blk_frozen hz 2
 have z0:=blk_cell hz 0
 have z1:=blk_cell hz 1
 have z2:=blk_cell hz 2
 simp at z0 z1 z2
 have hput:a.put none undef=a:=rfl
 refine wpOp_step hi (fun K hK=> ?_)
 have hk:=hK _ _ hh
 rw[if_pos (wanted_none hg)]
 unfold Oper.wp execOp
 rw[ho]
 go_simp
 exact hk
theorem op_store26 {k k2:Tmp} {g:Nat} {A0 A1 A2:Option Addr} {n0 c0 n1 c1 n2 c2:Nat} {y0 y1 y2:Value} (hi:ops[i]? =some o) (hg:o.guard=none) (hd:o.dst=none) (ho:o.op= .store 26 (.tmp k) (.tmp k2)) (ha:a.tmps[k]?.getD undef= .pointer (some ⟨g,0,none⟩)) (ha2:a.tmps[k2]?.getD undef= .agg #[.slice A0 n0 c0,.slice A1 n1 c1,.slice A2 n2 c2]) (hz:w.heap[g]? =some (.cells #[y0,y1,y2] 26 (0,0)))
  (h:∀w',w'.heap[g]? =some (.cells #[.slice A0 n0 c0,.slice A1 n1 c1,.slice A2 n2 c2] 26 (0,0))→(∀B,B≤g→Below B w w')→J a w'):wpOp Tryz.prog ops Q i J a w:=by
 have hh:=h _ (fin3 hz (.slice A0 n0 c0) (.slice A1 n1 c1) (.slice A2 n2 c2)) (fin3_any (blk_lt hz) _ _ _)
 have f0:=blk_frozen hz 0
 have f1:=blk_frozen hz 1
 have f2:=blk_frozen hz 2
 have z0:=blk_cell hz 0
 have z1:=blk_cell hz 1
 have z2:=blk_cell hz 2
 simp at z0 z1 z2
 have hput:a.put none undef=a:=rfl
 refine wpOp_step hi (fun K hK=> ?_)
 have hk:=hK _ _ hh
 rw[if_pos (wanted_none hg)]
 unfold Oper.wp execOp
 rw[ho]
 go_simp
 exact hk
end
end
section
attribute [local go_sem] Oper.semAt_some
def MSig (s:Sg):Prop:=s.ss=mSorts∧s.cs=mConsts∧s.ps=mPreds
def Is37 (w:World) (p:Value) (r:Except Int S70):Prop:=∃g,p= .pointer (some ⟨g,0,none⟩)∧At37 w g r
theorem Is37.below {w w' :World} {p:Value} {r:Except Int S70} (h:Is37 w p r) (hB:Below w.heap.size w w'):Is37 w' p r:=by
 obtain ⟨g,e,h⟩:=h
 exact ⟨g,e,h.below hB⟩
set_option maxHeartbeats 4000000 in
set_option maxRecDepth 100000 in
theorem reg13_1 (f:Nat→Value) (W:World):Code.wp Tryz.prog (.region 1 (opsOf Tryz.f13 1) false) (OnN (fun a w' =>∃f' g s,a=fr13 f' ∧f' 1= .pointer (some ⟨g,0,none⟩)∧AtS w' g s∧MSig s∧Below W.heap.size W w')) (fr13 f) W:=by
 simp only[opsOf,Tryz.f13,Option.bind_some,opsIn,Option.getD_some,Option.orElse,reduceIte,Nat.reduceEqDiff,Option.or_some,Option.none_or,Option.some_or,beq_iff_eq,Nat.reduceBEq,Bool.false_eq_true]
 refine wp_region_list ?_
 refine list_op (i:=0) rfl (op_call (f:=38) (args:= #[]) rfl (wanted_none rfl) (by have he:=enters_of Tryz.func38 (by kernel_rfl) rfl #[] W;go_simp) ((meanings_calls W).mono ?_))
 rintro e w0 ⟨A0,A1,A2,rfl,h0,b0⟩
 refine ⟨_,rfl,?_⟩
 change wpList _ _ _ _ (fr13 (upd f 15 _)) _
 refine list_op (i:=1) rfl (op_new26 rfl rfl rfl ?_)
 change wpList _ _ _ _ (fr13 (upd (upd f 15 _) 1 (.pointer (some ⟨w0.heap.size,0,none⟩)))) _
 refine list_op (i:=2) rfl (op_store26 rfl rfl rfl rfl rfl rfl (heap_alloc_new _ _) fun w2 h2 b2=> ?_)
 have B0:=(below_alloc (Below.refl w0.heap.size w0) _).trans (b2 w0.heap.size (Nat.le_refl _))
 exact ⟨upd (upd f 15 _) 1 _,w0.heap.size,⟨A0,_,mSorts,A1,_,mConsts,A2,_,mPreds⟩,rfl,rfl,⟨h2,SigC.below h0 B0⟩,⟨rfl,rfl,rfl⟩,b0.trans (B0.mono b0.size)⟩
set_option maxHeartbeats 4000000 in
set_option maxRecDepth 100000 in
theorem reg13_2 (f:Nat→Value) (W:World):Code.wp Tryz.prog (.region 2 (opsOf Tryz.f13 2) false) (OnN (fun a w' =>∃f' g,a=fr13 f' ∧f' 1=f 1∧f' 2= .pointer (some ⟨g,0,none⟩)∧AtT w' g tMarta∧Below W.heap.size W w')) (fr13 f) W:=by
 simp only[opsOf,Tryz.f13,Option.bind_some,opsIn,Option.getD_some,Option.orElse,reduceIte,Nat.reduceEqDiff,Option.or_some,Option.none_or,Option.some_or,beq_iff_eq,Nat.reduceBEq,Bool.false_eq_true]
 refine wp_region_list ?_
 refine list_op (i:=0) rfl (op_leaf rfl rfl rfl fun v0 w0 h0 b0=> ?_)
 change wpList _ _ _ _ (fr13 (upd f 16 v0)) _
 refine list_op (i:=1) rfl (op_row1 rfl rfl rfl rfl h0 fun v1 w1 h1 b1=> ?_)
 change wpList _ _ _ _ (fr13 (upd (upd f 16 v0) 17 v1)) _
 refine list_op (i:=2) rfl (op_tree rfl rfl rfl rfl h1 fun v2 w2 h2 b2=> ?_)
 change wpList _ _ _ _ (fr13 (upd (upd (upd f 16 v0) 17 v1) 18 v2)) _
 refine list_op (i:=3) rfl (op_new30 rfl rfl rfl ?_)
 change wpList _ _ _ _ (fr13 (upd (upd (upd (upd f 16 v0) 17 v1) 18 v2) 2 (.pointer (some ⟨w2.heap.size,0,none⟩)))) _
 obtain ⟨A1,c1,A2,c2,he,hV⟩:=h2
 refine list_op (i:=4) rfl (op_store30 rfl rfl rfl rfl rfl he (heap_alloc_new _ _) fun w4 h4 b4=> ?_)
 have B0:=(below_alloc (Below.refl w2.heap.size w2) _).trans (b4 w2.heap.size (Nat.le_refl _))
 exact ⟨upd (upd (upd (upd f 16 v0) 17 v1) 18 v2) 2 (.pointer (some ⟨w2.heap.size,0,none⟩)),w2.heap.size,by kernel_rfl,rfl,rfl,⟨_,_,_,_,h4,hV.below B0⟩,below_step (below_step (below_step (b0) b1) b2) B0⟩
set_option maxHeartbeats 4000000 in
set_option maxRecDepth 100000 in
theorem reg13_3 (f:Nat→Value) (W:World):Code.wp Tryz.prog (.region 3 (opsOf Tryz.f13 3) false) (OnN (fun a w' =>∃f' g,a=fr13 f' ∧f' 1=f 1∧f' 2=f 2∧f' 3= .pointer (some ⟨g,0,none⟩)∧AtT w' g tCarry∧Below W.heap.size W w')) (fr13 f) W:=by
 simp only[opsOf,Tryz.f13,Option.bind_some,opsIn,Option.getD_some,Option.orElse,reduceIte,Nat.reduceEqDiff,Option.or_some,Option.none_or,Option.some_or,beq_iff_eq,Nat.reduceBEq,Bool.false_eq_true]
 refine wp_region_list ?_
 refine list_op (i:=0) rfl (op_leaf rfl rfl rfl fun v0 w0 h0 b0=> ?_)
 change wpList _ _ _ _ (fr13 (upd f 19 v0)) _
 refine list_op (i:=1) rfl (op_row1 rfl rfl rfl rfl h0 fun v1 w1 h1 b1=> ?_)
 change wpList _ _ _ _ (fr13 (upd (upd f 19 v0) 20 v1)) _
 refine list_op (i:=2) rfl (op_tree rfl rfl rfl rfl h1 fun v2 w2 h2 b2=> ?_)
 change wpList _ _ _ _ (fr13 (upd (upd (upd f 19 v0) 20 v1) 21 v2)) _
 refine list_op (i:=3) rfl (op_row1 rfl rfl rfl rfl h2 fun v3 w3 h3 b3=> ?_)
 change wpList _ _ _ _ (fr13 (upd (upd (upd (upd f 19 v0) 20 v1) 21 v2) 22 v3)) _
 refine list_op (i:=4) rfl (op_tree rfl rfl rfl rfl h3 fun v4 w4 h4 b4=> ?_)
 change wpList _ _ _ _ (fr13 (upd (upd (upd (upd (upd f 19 v0) 20 v1) 21 v2) 22 v3) 23 v4)) _
 refine list_op (i:=5) rfl (op_leaf rfl rfl rfl fun v5 w5 h5 b5=> ?_)
 change wpList _ _ _ _ (fr13 (upd (upd (upd (upd (upd (upd f 19 v0) 20 v1) 21 v2) 22 v3) 23 v4) 24 v5)) _
 refine list_op (i:=6) rfl (op_leaf rfl rfl rfl fun v6 w6 h6 b6=> ?_)
 change wpList _ _ _ _ (fr13 (upd (upd (upd (upd (upd (upd (upd f 19 v0) 20 v1) 21 v2) 22 v3) 23 v4) 24 v5) 25 v6)) _
 refine list_op (i:=7) rfl (op_row1 rfl rfl rfl rfl h6 fun v7 w7 h7 b7=> ?_)
 change wpList _ _ _ _ (fr13 (upd (upd (upd (upd (upd (upd (upd (upd f 19 v0) 20 v1) 21 v2) 22 v3) 23 v4) 24 v5) 25 v6) 26 v7)) _
 refine list_op (i:=8) rfl (op_tree rfl rfl rfl rfl h7 fun v8 w8 h8 b8=> ?_)
 change wpList _ _ _ _ (fr13 (upd (upd (upd (upd (upd (upd (upd (upd (upd f 19 v0) 20 v1) 21 v2) 22 v3) 23 v4) 24 v5) 25 v6) 26 v7) 27 v8)) _
 refine list_op (i:=9) rfl (op_row1 rfl rfl rfl rfl h8 fun v9 w9 h9 b9=> ?_)
 change wpList _ _ _ _ (fr13 (upd (upd (upd (upd (upd (upd (upd (upd (upd (upd f 19 v0) 20 v1) 21 v2) 22 v3) 23 v4) 24 v5) 25 v6) 26 v7) 27 v8) 28 v9)) _
 refine list_op (i:=10) rfl (op_tree rfl rfl rfl rfl h9 fun v10 w10 h10 b10=> ?_)
 change wpList _ _ _ _ (fr13 (upd (upd (upd (upd (upd (upd (upd (upd (upd (upd (upd f 19 v0) 20 v1) 21 v2) 22 v3) 23 v4) 24 v5) 25 v6) 26 v7) 27 v8) 28 v9) 29 v10)) _
 refine list_op (i:=11) rfl (op_row2 rfl rfl rfl rfl rfl (h5.below (below_step (below_step (below_step (below_step b6 b7) (b8)) (b9)) (b10))) h10 fun v11 w11 h11 b11=> ?_)
 change wpList _ _ _ _ (fr13 (upd (upd (upd (upd (upd (upd (upd (upd (upd (upd (upd (upd f 19 v0) 20 v1) 21 v2) 22 v3) 23 v4) 24 v5) 25 v6) 26 v7) 27 v8) 28 v9) 29 v10) 30 v11)) _
 refine list_op (i:=12) rfl (op_tree rfl rfl rfl rfl h11 fun v12 w12 h12 b12=> ?_)
 change wpList _ _ _ _ (fr13 (upd (upd (upd (upd (upd (upd (upd (upd (upd (upd (upd (upd (upd f 19 v0) 20 v1) 21 v2) 22 v3) 23 v4) 24 v5) 25 v6) 26 v7) 27 v8) 28 v9) 29 v10) 30 v11) 31 v12)) _
 refine list_op (i:=13) rfl (op_row2 rfl rfl rfl rfl rfl (h4.below (below_step (below_step (below_step (below_step (below_step (below_step (below_step b5 b6) (b7)) (b8)) (b9)) (b10)) (b11)) (b12))) h12 fun v13 w13 h13 b13=> ?_)
 change wpList _ _ _ _ (fr13 (upd (upd (upd (upd (upd (upd (upd (upd (upd (upd (upd (upd (upd (upd f 19 v0) 20 v1) 21 v2) 22 v3) 23 v4) 24 v5) 25 v6) 26 v7) 27 v8) 28 v9) 29 v10) 30 v11) 31 v12) 32 v13)) _
 refine list_op (i:=14) rfl (op_tree rfl rfl rfl rfl h13 fun v14 w14 h14 b14=> ?_)
 change wpList _ _ _ _ (fr13 (upd (upd (upd (upd (upd (upd (upd (upd (upd (upd (upd (upd (upd (upd (upd f 19 v0) 20 v1) 21 v2) 22 v3) 23 v4) 24 v5) 25 v6) 26 v7) 27 v8) 28 v9) 29 v10) 30 v11) 31 v12) 32 v13) 33 v14)) _
 refine list_op (i:=15) rfl (op_new30 rfl rfl rfl ?_)
 change wpList _ _ _ _ (fr13 (upd (upd (upd (upd (upd (upd (upd (upd (upd (upd (upd (upd (upd (upd (upd (upd f 19 v0) 20 v1) 21 v2) 22 v3) 23 v4) 24 v5) 25 v6) 26 v7) 27 v8) 28 v9) 29 v10) 30 v11) 31 v12) 32 v13) 33 v14) 3 (.pointer (some ⟨w14.heap.size,0,none⟩)))) _
 obtain ⟨A1,c1,A2,c2,he,hV⟩:=h14
 refine list_op (i:=16) rfl (op_store30 rfl rfl rfl rfl rfl he (heap_alloc_new _ _) fun w16 h16 b16=> ?_)
 have B0:=(below_alloc (Below.refl w14.heap.size w14) _).trans (b16 w14.heap.size (Nat.le_refl _))
 exact ⟨upd (upd (upd (upd (upd (upd (upd (upd (upd (upd (upd (upd (upd (upd (upd (upd f 19 v0) 20 v1) 21 v2) 22 v3) 23 v4) 24 v5) 25 v6) 26 v7) 27 v8) 28 v9) 29 v10) 30 v11) 31 v12) 32 v13) 33 v14) 3 (.pointer (some ⟨w14.heap.size,0,none⟩)),w14.heap.size,by kernel_rfl,rfl,rfl,rfl,⟨_,_,_,_,h16,hV.below B0⟩,below_step (below_step (below_step (below_step (below_step (below_step (below_step (below_step (below_step (below_step (below_step (below_step (below_step (below_step (below_step (b0) b1) b2) b3) b4) b5) b6) b7) b8) b9) b10) b11) b12) b13) b14) B0⟩
end
end Go.Proofs.YtcfjomnihhdpaaaGreatDoor.A
