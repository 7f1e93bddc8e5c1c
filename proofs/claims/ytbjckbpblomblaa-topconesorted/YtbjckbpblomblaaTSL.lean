/-
  TopConeSorted returns true for every input, and each argument reads afterwards as it read before (the statement Rows.TopConeSortedSaid). No conditions.
-/
import Derived.Test.YtbjckbpblomblaaTT
import Derived.Test.YtbjckbpblomblaaLG
set_option linter.unusedVariables false
set_option linter.unusedSimpArgs false
set_option maxRecDepth 100000
namespace Go.Z
open Go Go.Abs Go.Proofs
theorem map_of2 {α:Type} {f:α→AVal} {Q:α→Prop}:∀ {xs:List AVal},(∀ y∈xs,∃ a,y=f a∧Q a)→∃ l:List α,xs=l.map f∧∀ a∈l,Q a
 | [],_=>⟨[],rfl,by simp⟩
 | y::xs,h=>by
  obtain ⟨a,ha,hq⟩:=h y (List.mem_cons_self ..)
  obtain ⟨l,hl,hr⟩:=map_of2 (f:=f) (Q:=Q) (fun z hz=>h z (List.mem_cons_of_mem _ hz))
  exact ⟨a::l,by rw [ha,hl]; rfl,fun b hb=>by
   rcases List.mem_cons.1 hb with rfl | hb
   ·exact hq
   ·exact hr b hb⟩
theorem maxLen_eq:maxLen=9223372036854775807:=by decide
def wf9 (x0:List UInt8):Prop:=x0.length≤maxLen
def wf3 (x0:Int):Prop:=(Lit.int .i64 x0).wf=true
def wf26 (x0:Option (List Int)):Prop:=(x0.getD []).length≤maxLen∧∀ y∈x0.getD [],wf3 y
def wf28 (x0:List UInt8) (x1:Option (List Int)):Prop:=wf9 x0∧wf26 x1
def wf22 (x0:Option (List GUnit)):Prop:=(x0.getD []).length≤maxLen∧∀ y∈x0.getD [],wf28 y.serial y.values
theorem rt9 {n:Nat} {cs:List AVal} (h:typedC Try.prog (n + 1) 9 cs):∃ (x0:List UInt8),cs=[.str x0]∧wf9 x0:=by
 simp only [typedC,Try.underlying9] at h
 exact h
theorem rt3 {n:Nat} {cs:List AVal} (h:typedC Try.prog (n + 1) 3 cs):∃ (x0:Int),cs=[.int .i64 x0]∧wf3 x0:=by
 simp only [typedC,Try.underlying3] at h
 exact h
theorem tA3:aggT Try.prog 3=false:=by kernel_rfl
theorem tC3:Try.prog.cellsOf 3=1:=by kernel_rfl
theorem rt26 {n:Nat} {cs:List AVal} (h:typedC Try.prog (n + 2) 26 cs):∃ (x0:Option (List Int)),cs=[sl 1 vint x0]∧wf26 x0:=by
 rw [typedC] at h
 simp only [Try.underlying26] at h
 rcases h with h | ⟨xs,h,hln,hx⟩
 ·exact ⟨none,h,by simp [wf26]⟩
 ·obtain ⟨l,hl,hq⟩:=map_of2 (f:=vint) (Q:=fun y=>wf3 y) (xs:=xs) (fun y hy=>by
   obtain ⟨h1,h2⟩:=hx y hy
   rw [tA3] at h2
   obtain ⟨y0,hm,hq⟩:=rt3 h1
   rw [flat_one h2] at hm
   exact ⟨y0,(List.cons.inj hm).1,hq⟩)
  exact ⟨some l,by rw [h,hl,tC3]; rfl,by rw [hl,List.length_map] at hln; exact ⟨hln,hq⟩⟩
theorem rt28 {n:Nat} {cs:List AVal} (h:typedC Try.prog (n + 3) 28 cs):∃ (x0:List UInt8) (x1:Option (List Int)),cs=[.str x0,sl 1 vint x1]∧wf28 x0 x1:=by
 rw [typedC] at h
 simp only [Try.underlying28] at h
 obtain ⟨ys0,zs0,rfl,g0,k0⟩:=h
 obtain ⟨x0,rfl,w0⟩:=rt9 g0
 obtain ⟨ys1,zs1,rfl,g1,k1⟩:=k0
 obtain ⟨x1,rfl,w1⟩:=rt26 g1
 rw [show zs1=[] from k1]
 exact ⟨x0,x1,rfl,w0,w1⟩
theorem tA28:aggT Try.prog 28=true:=by kernel_rfl
theorem tC28:Try.prog.cellsOf 28=2:=by kernel_rfl
theorem rt22 {n:Nat} {cs:List AVal} (h:typedC Try.prog (n + 4) 22 cs):∃ (x0:Option (List GUnit)),cs=[sl 2 vunit x0]∧wf22 x0:=by
 rw [typedC] at h
 simp only [Try.underlying22] at h
 rcases h with h | ⟨xs,h,hln,hx⟩
 ·exact ⟨none,h,by simp [wf22]⟩
 ·obtain ⟨l,hl,hq⟩:=map_of2 (f:=vunit) (Q:=fun y=>wf28 y.serial y.values) (xs:=xs) (fun y hy=>by
   obtain ⟨h1,h2⟩:=hx y hy
   rw [tA28] at h2
   obtain ⟨y0,y1,hm,hq⟩:=rt28 h1
   exact ⟨⟨y0,y1⟩,by rw [agg_flat h2,hm]; rfl,hq⟩)
  exact ⟨some l,by rw [h,hl,tC28]; rfl,by rw [hl,List.length_map] at hln; exact ⟨hln,hq⟩⟩
def wf5 (x0:Int):Prop:=(Lit.int .u8 x0).wf=true
theorem rt5 {n:Nat} {cs:List AVal} (h:typedC Try.prog (n + 1) 5 cs):∃ (x0:Int),cs=[.int .u8 x0]∧wf5 x0:=by
 simp only [typedC,Try.underlying5] at h
 exact h
theorem tA22:aggT Try.prog 22=false:=by kernel_rfl
theorem tA5:aggT Try.prog 5=false:=by kernel_rfl
theorem wf_u8 {x:Int} (h:(Lit.int .u8 x).wf=true):0≤x∧x≤255:=by
 simp only [Lit.wf,Bool.and_eq_true,decide_eq_true_eq] at h
 have e1:IntKind.min .u8=0:=by decide
 have e2:IntKind.max .u8=255:=by decide
 omega
theorem law3 (xs:List AVal) (h:typedAll Try.prog 6 Try.f3.params.toList xs):IsoCall Try.prog 3 xs (.bool true) false:=by
 rw [Try.params3] at h
 obtain ⟨y0,ys0,rfl,h0,h⟩:=h
 obtain ⟨y1,ys1,rfl,h1,h⟩:=h
 rw [show ys1=[] from h]
 obtain ⟨g0,k0⟩:=h0
 rw [tA22] at k0
 obtain ⟨p0_0,e0,q0⟩:=rt22 g0
 rw [flat_one k0] at e0
 obtain rfl:y0=sl 2 vunit p0_0:=(List.cons.inj e0).1
 obtain ⟨g1,k1⟩:=h1
 rw [tA5] at k1
 obtain ⟨p1_0,e1,q1⟩:=rt5 g1
 rw [flat_one k1] at e1
 obtain rfl:y1=.int .u8 p1_0:=(List.cons.inj e1).1
 exact callX_ok okPr (I3 p0_0 p1_0 (fun u hu=>⟨by rw [← maxLen_eq]; exact (q0.2 u hu).1,by rw [← maxLen_eq]; exact (q0.2 u hu).2.1⟩) (wf_u8 q1)) (by simp only [go_sem,seval])
end Go.Z
namespace Go.Proofs.Ytbjckbpblomblaa
open Go Go.Abs Go.Z Go.RowKit
theorem law3_lifted (os:Os) (started:os.Started) (H:Type) (enc:TypeId × Value→H):
  ReturnsInHanded {} Try.checked os 3 .any (Rows.topConeSortedSpec.pre6 enc Try.prog Try.f3 Rows.topConeSortedRow.domain false) (Rows.topConeSortedSpec.post enc Try.prog Try.f3 false true false false):=
 law_lifted (C:=Try.checked) 6 4 z_own started (by kernel_rfl) Try.func3
  (ChangeSpec.witness6 (enc:=enc) (C:=Try.checked) false ⟨#[],#[.slice none 0 0,.int .u8 0],[]⟩ 8 (by kernel_rfl) (by kernel_rfl) (by kernel_rfl) (by kernel_rfl))
  rfl rfl Try.underlying4 z_laid (by kernel_rfl) (by kernel_rfl)
  (fun ds hd=>by
   rw [Try.params3] at hd
   match ds,hd with
   | [d1,d2],_=>exact ⟨rfl,rfl,rfl⟩)
  law3
theorem topConeSorted_holds:Rows.TopConeSortedSaid:=
 OpenClaim.holds_of_wide 3 Try.f3 rfl rfl rfl rfl rfl rfl rfl ⟨rfl,rfl,rfl,rfl,rfl⟩ rfl rfl rfl rfl rfl (by kernel_rfl) Try.func3 (by kernel_rfl)
  (of_decide_eq_true (by kernel_rfl)) (by unfold Func.isWrapper; first | (rw [if_pos (by decide +kernel)]; kernel_rfl) | (rw [if_neg (by decide +kernel)]; exact ⟨rfl,rfl⟩))
  (fun os started H enc _=>law3_lifted os started H enc)
end Go.Proofs.Ytbjckbpblomblaa
