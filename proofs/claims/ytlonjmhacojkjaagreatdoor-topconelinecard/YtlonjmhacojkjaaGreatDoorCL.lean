/-
  TopConeLine returns true for every input, and each argument reads afterwards as it read before (the statement Rows.TopConeLineSaid). No conditions.
-/
import Derived.Test.YtlonjmhacojkjaaGreatDoorC10
import Derived.Test.YtlonjmhacojkjaaGreatDoorZL
import Derived.Test.YtlonjmhacojkjaaGreatDoorAbsO
import Derived.Test.YtlonjmhacojkjaaGreatDoorTie
import Derived.Test.YtlonjmhacojkjaaGreatDoorCards
import Derived.OpenShut
import Derived.LaidMore
import Derived.Lay
import Derived.SevenTiedAt
import Derived.Stop.Joined
set_option linter.unusedVariables false
set_option linter.unusedSimpArgs false
set_option maxRecDepth 100000
namespace Go.Z
open Go Go.Abs Go.Proofs
theorem map_of2 {α:Type} {f:α→AVal} {Q:α→Prop}:∀ {xs:List AVal},(∀ y∈xs,∃ a,y=f a∧Q a)→∃ l:List α,xs=l.map f∧∀ a∈l,Q a
 | [],_=>⟨[],rfl,by simp⟩
 | y::xs,h=>by
  obtain ⟨a,ha,hq⟩:=h y (List.mem_cons_self ..)
  obtain ⟨l,hl,hr⟩:=map_of2 (f:=f) (Q:=Q) (fun z hz=>h z (List.mem_cons_of_mem _ hz))
  exact ⟨a::l,by rw [ha,hl]; rfl,fun b hb=>by
   rcases List.mem_cons.1 hb with rfl | hb
   ·exact hq
   ·exact hr b hb⟩
theorem maxLen_eq:maxLen=9223372036854775807:=by decide
def wf3 (x0:Int):Prop:=(Lit.int .i64 x0).wf=true
def wf24 (x0:Option (List Int)):Prop:=(x0.getD []).length≤maxLen∧∀ y∈x0.getD [],wf3 y
def wf22 (x0:Option (List (Option (List Int)))):Prop:=(x0.getD []).length≤maxLen∧∀ y∈x0.getD [],wf24 y
theorem rt3 {n:Nat} {cs:List AVal} (h:typedC Tryz.prog (n + 1) 3 cs):∃ (x0:Int),cs=[.int .i64 x0]∧wf3 x0:=by
 simp only [typedC,Tryz.underlying3] at h
 exact h
theorem tA3:aggT Tryz.prog 3=false:=by kernel_rfl
theorem tC3:Tryz.prog.cellsOf 3=1:=by kernel_rfl
theorem rt24 {n:Nat} {cs:List AVal} (h:typedC Tryz.prog (n + 2) 24 cs):∃ (x0:Option (List Int)),cs=[sl 1 vint x0]∧wf24 x0:=by
 rw [typedC] at h
 simp only [Tryz.underlying24] at h
 rcases h with h | ⟨xs,h,hln,hx⟩
 ·exact ⟨none,h,by simp [wf24]⟩
 ·obtain ⟨l,hl,hq⟩:=map_of2 (f:=vint) (Q:=fun y=>wf3 y) (xs:=xs) (fun y hy=>by
   obtain ⟨h1,h2⟩:=hx y hy
   rw [tA3] at h2
   obtain ⟨y0,hm,hq⟩:=rt3 h1
   rw [flat_one h2] at hm
   exact ⟨y0,(List.cons.inj hm).1,hq⟩)
  exact ⟨some l,by rw [h,hl,tC3]; rfl,by rw [hl,List.length_map] at hln; exact ⟨hln,hq⟩⟩
theorem tA24:aggT Tryz.prog 24=false:=by kernel_rfl
theorem tC24:Tryz.prog.cellsOf 24=1:=by kernel_rfl
theorem rt22 {n:Nat} {cs:List AVal} (h:typedC Tryz.prog (n + 3) 22 cs):∃ (x0:Option (List (Option (List Int)))),cs=[sl 1 (sl 1 vint) x0]∧wf22 x0:=by
 rw [typedC] at h
 simp only [Tryz.underlying22] at h
 rcases h with h | ⟨xs,h,hln,hx⟩
 ·exact ⟨none,h,by simp [wf22]⟩
 ·obtain ⟨l,hl,hq⟩:=map_of2 (f:=(sl 1 vint)) (Q:=fun y=>wf24 y) (xs:=xs) (fun y hy=>by
   obtain ⟨h1,h2⟩:=hx y hy
   rw [tA24] at h2
   obtain ⟨y0,hm,hq⟩:=rt24 h1
   rw [flat_one h2] at hm
   exact ⟨y0,(List.cons.inj hm).1,hq⟩)
  exact ⟨some l,by rw [h,hl,tC24]; rfl,by rw [hl,List.length_map] at hln; exact ⟨hln,hq⟩⟩
def wf5 (x0:Int):Prop:=(Lit.int .u8 x0).wf=true
theorem rt5 {n:Nat} {cs:List AVal} (h:typedC Tryz.prog (n + 1) 5 cs):∃ (x0:Int),cs=[.int .u8 x0]∧wf5 x0:=by
 simp only [typedC,Tryz.underlying5] at h
 exact h
theorem tA22:aggT Tryz.prog 22=false:=by kernel_rfl
theorem tA5:aggT Tryz.prog 5=false:=by kernel_rfl
theorem wf_u8 {x:Int} (h:(Lit.int .u8 x).wf=true):0≤x∧x≤255:=by
 simp only [Lit.wf,Bool.and_eq_true,decide_eq_true_eq] at h
 have e1:IntKind.min .u8=0:=by decide
 have e2:IntKind.max .u8=255:=by decide
 omega
theorem law3 (xs:List AVal) (h:typedAll Tryz.prog 5 Tryz.f3.params.toList xs):IsoCall Tryz.prog 3 xs (.bool true) false:=by
 rw [Tryz.params3] at h
 obtain ⟨y0,ys0,rfl,h0,h⟩:=h
 obtain ⟨y1,ys1,rfl,h1,h⟩:=h
 obtain ⟨y2,ys2,rfl,h2,h⟩:=h
 rw [show ys2=[] from h]
 obtain ⟨g0,k0⟩:=h0
 rw [tA22] at k0
 obtain ⟨p0_0,e0,q0⟩:=rt22 g0
 rw [flat_one k0] at e0
 obtain rfl:y0=sl 1 (sl 1 vint) p0_0:=(List.cons.inj e0).1
 obtain ⟨g1,k1⟩:=h1
 rw [tA5] at k1
 obtain ⟨p1_0,e1,q1⟩:=rt5 g1
 rw [flat_one k1] at e1
 obtain rfl:y1=.int .u8 p1_0:=(List.cons.inj e1).1
 obtain ⟨g2,k2⟩:=h2
 rw [tA5] at k2
 obtain ⟨p2_0,e2,q2⟩:=rt5 g2
 rw [flat_one k2] at e2
 obtain rfl:y2=.int .u8 p2_0:=(List.cons.inj e2).1
 exact callX_ok okE (I3 p0_0 p1_0 p2_0 (wf_u8 q1) (wf_u8 q2) (fun h hh=>by rw [← maxLen_eq]; exact (q0.2 h hh).1)) (by simp only [go_sem,seval])
end Go.Z
namespace Go.Proofs.YtlonjmhacojkjaaGreatDoor
open Go Go.Abs Go.Z Go.RowKit
theorem z_own:ownKnob Tryz.prog.godebug=none:=by kernel_rfl
theorem z_laid:laidOutB Tryz.prog=true:=by kernel_rfl
theorem tabs_of {W:World} (hsh:W.ShapedOpen Tryz.prog) (h:laidMetH Tryz.prog Rows.topConeLineRow.laid W):Tabs Tryz.prog W:=by
 rw [MakeChecks.laidMetH_plain _ _ _ (by kernel_rfl)] at h
 exact tabs_laid (gt:=1) (gl:=0) (t:=162) (e:=151) (tl:=3) (n:=20) (zero:=#[.int .i64 0]) (by kernel_rfl) (by kernel_rfl) (by kernel_rfl) (by kernel_rfl) (by kernel_rfl) (by kernel_rfl) (by kernel_rfl)
  (of_decide_eq_true (by kernel_rfl)) (by kernel_rfl) rfl (by kernel_rfl) (by kernel_rfl) (by kernel_rfl) (List.mem_of_getElem? (i:=2) (by kernel_rfl)) hsh h
theorem law3_lifted (os:Os) (started:os.Started) (H:Type) (enc:TypeId × Value→H):
  ReturnsInHanded {} Tryz.checked os 3 .any (fun w args=>(Rows.topConeLineSpec.pre enc Tryz.prog Tryz.f3 Rows.topConeLineRow.domain false w args∧laidMetH Tryz.prog Rows.topConeLineRow.laid w)∧sizedMet enc Tryz.prog Tryz.f3 (OpenSpec.ofChange Rows.topConeLineSpec) false w args) (Rows.topConeLineSpec.post enc Tryz.prog Tryz.f3 false true false false):=
 law_lifted_laid (C:=Tryz.checked) (laid:=Rows.topConeLineRow.laid) 5 4 (fun _ _ hh h=>h.of_heap hh) z_own started (by kernel_rfl) Tryz.func3
  (ChangeSpec.witness_shaped (enc:=enc) (C:=Tryz.checked) (os:=os) (X:=fun w _=>laidMetH Tryz.prog Rows.topConeLineRow.laid w) false (World.laidAll Tryz.prog os Rows.topConeLineRow.laid) #[.slice none 0 0,.int .u8 0,.int .u8 0] 8 (World.laidAll_os _ _ _)
   (World.shaped_of_ZipB (by kernel_rfl) (by kernel_rfl)) (by kernel_rfl) (by kernel_rfl) (by kernel_rfl)
   (by rw [MakeChecks.laidMetH_plain _ _ _ (by kernel_rfl)]; exact laidMet_laidAll _ (by kernel_rfl) (by kernel_rfl)))
  rfl rfl Tryz.underlying4 z_laid (by kernel_rfl) (by kernel_rfl)
  (fun ds hd=>by
   rw [Tryz.params3] at hd
   match ds,hd with
   | [d1,d2,d3],_=>exact ⟨rfl,rfl,rfl⟩)
  law3 (fun W hsh h=>tabs_of hsh h)
theorem topConeLine_row:Rows.TopConeLineSaid:=
 OpenClaim.holds_of_wide 3 Tryz.f3 rfl rfl rfl rfl rfl rfl rfl ⟨rfl,rfl,rfl,rfl,rfl⟩ rfl rfl rfl rfl rfl (by kernel_rfl) Tryz.func3 (by kernel_rfl)
  (of_decide_eq_true (by kernel_rfl)) (by unfold Func.isWrapper; first | (rw [if_pos (by decide +kernel)]; kernel_rfl) | (rw [if_neg (by decide +kernel)]; exact ⟨rfl,rfl⟩))
  (fun os started H enc _=>law3_lifted os started H enc)
theorem topConeLine_holds:Rows.TopConeLineCardSaid:=
 Claim7.holds_tied_plain_at .later [] [.data, .data, .data, .data, .pinned] true (true, "727bc40cd448715511d2f627dfd0fbb2cbdeafb1d4077fda9d07ffdb0d2458ca") false
  topConeLine_row (fun _ h=>by cases h) (by kernel_rfl) (fun _ h=>by cases h) topConeLine_row_tie rfl ⟨rfl,rfl⟩ (by kernel_rfl) rfl
  (fun f fn hf hfn=>by
   obtain rfl : f = 3 := Option.some.inj ((show Tryz.prog.funcNamed "woofer/woofertop.TopConeLine" = some 3 by kernel_rfl).symm.trans hf) |>.symm
   obtain rfl:fn=Tryz.f3:=(Option.some.inj (Tryz.func3.symm.trans hfn)).symm
   exact ⟨by kernel_rfl,fun j t ht=>by
    rw [Tryz.params3] at ht
    have hm:t∈[22,5]:=by have:=Array.mem_of_getElem? ht; simp at this ⊢; omega -- using Array.mem_of_getElem? ht
    have hall:([22,5].all fun u=>!Tryz.prog.wantsStandIn u)=true:=by kernel_rfl
    exact (show Tryz.prog.wantsStandIn t=false by simpa using List.all_eq_true.1 hall t hm)⟩)
  (by kernel_rfl)
end Go.Proofs.YtlonjmhacojkjaaGreatDoor
