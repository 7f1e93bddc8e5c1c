/-
  LineBack returns true for every input, and each argument reads afterwards as it read before (the statement Rows.LineBackSaid). No conditions.
-/
import Derived.Test.YtoljkienfmckjaaGreatDoorN18
import Derived.Test.YtoljkienfmckjaaGreatDoorLG
import Derived.Test.YtoljkienfmckjaaGreatDoorAbsO
import Derived.Test.YtoljkienfmckjaaGreatDoorTie
import Derived.Test.YtoljkienfmckjaaGreatDoorCards
import Derived.OpenShut
import Derived.LaidMore
import Derived.Lay
import Derived.SevenTiedAt
import Derived.Stop.Joined
set_option linter.unusedVariables false
set_option linter.unusedSimpArgs false
set_option maxRecDepth 100000
namespace Go.Z
open Go Go.Abs Go.Proofs
theorem map_of2 {α:Type} {f:α→AVal} {Q:α→Prop}:∀ {xs:List AVal},(∀ y∈xs,∃ a,y=f a∧Q a)→∃ l:List α,xs=l.map f∧∀ a∈l,Q a
 | [],_=>⟨[],rfl,by simp⟩
 | y::xs,h=>by
  obtain ⟨a,ha,hq⟩:=h y (List.mem_cons_self ..)
  obtain ⟨l,hl,hr⟩:=map_of2 (f:=f) (Q:=Q) (fun z hz=>h z (List.mem_cons_of_mem _ hz))
  exact ⟨a::l,by rw [ha,hl]; rfl,fun b hb=>by
   rcases List.mem_cons.1 hb with rfl | hb
   ·exact hq
   ·exact hr b hb⟩
theorem maxLen_eq:maxLen=9223372036854775807:=by decide
def wf9 (x0:List UInt8):Prop:=x0.length≤maxLen
def wf3 (x0:Int):Prop:=(Lit.int .i64 x0).wf=true
def wf41 (x0:Option (List Int)):Prop:=(x0.getD []).length≤maxLen∧∀ y∈x0.getD [],wf3 y
def wf84 (x0:List UInt8) (x1:Option (List Int)):Prop:=wf9 x0∧wf41 x1
def wf22 (x0:Option (List GUnit)):Prop:=(x0.getD []).length≤maxLen∧∀ y∈x0.getD [],wf84 y.serial y.values
theorem rt9 {n:Nat} {cs:List AVal} (h:typedC Tryz.prog (n + 1) 9 cs):∃ (x0:List UInt8),cs=[.str x0]∧wf9 x0:=by
 simp only [typedC,Tryz.underlying9] at h
 exact h
theorem rt3 {n:Nat} {cs:List AVal} (h:typedC Tryz.prog (n + 1) 3 cs):∃ (x0:Int),cs=[.int .i64 x0]∧wf3 x0:=by
 simp only [typedC,Tryz.underlying3] at h
 exact h
theorem tA3:aggT Tryz.prog 3=false:=by kernel_rfl
theorem tC3:Tryz.prog.cellsOf 3=1:=by kernel_rfl
theorem rt41 {n:Nat} {cs:List AVal} (h:typedC Tryz.prog (n + 2) 41 cs):∃ (x0:Option (List Int)),cs=[sl 1 vint x0]∧wf41 x0:=by
 rw [typedC] at h
 simp only [Tryz.underlying41] at h
 rcases h with h | ⟨xs,h,hln,hx⟩
 ·exact ⟨none,h,by simp [wf41]⟩
 ·obtain ⟨l,hl,hq⟩:=map_of2 (f:=vint) (Q:=fun y=>wf3 y) (xs:=xs) (fun y hy=>by
   obtain ⟨h1,h2⟩:=hx y hy
   rw [tA3] at h2
   obtain ⟨y0,hm,hq⟩:=rt3 h1
   rw [flat_one h2] at hm
   exact ⟨y0,(List.cons.inj hm).1,hq⟩)
  exact ⟨some l,by rw [h,hl,tC3]; rfl,by rw [hl,List.length_map] at hln; exact ⟨hln,hq⟩⟩
theorem rt84 {n:Nat} {cs:List AVal} (h:typedC Tryz.prog (n + 3) 84 cs):∃ (x0:List UInt8) (x1:Option (List Int)),cs=[.str x0,sl 1 vint x1]∧wf84 x0 x1:=by
 rw [typedC] at h
 simp only [Tryz.underlying84] at h
 obtain ⟨ys0,zs0,rfl,g0,k0⟩:=h
 obtain ⟨x0,rfl,w0⟩:=rt9 g0
 obtain ⟨ys1,zs1,rfl,g1,k1⟩:=k0
 obtain ⟨x1,rfl,w1⟩:=rt41 g1
 rw [show zs1=[] from k1]
 exact ⟨x0,x1,rfl,w0,w1⟩
theorem tA84:aggT Tryz.prog 84=true:=by kernel_rfl
theorem tC84:Tryz.prog.cellsOf 84=2:=by kernel_rfl
theorem rt22 {n:Nat} {cs:List AVal} (h:typedC Tryz.prog (n + 4) 22 cs):∃ (x0:Option (List GUnit)),cs=[sl 2 vunit x0]∧wf22 x0:=by
 rw [typedC] at h
 simp only [Tryz.underlying22] at h
 rcases h with h | ⟨xs,h,hln,hx⟩
 ·exact ⟨none,h,by simp [wf22]⟩
 ·obtain ⟨l,hl,hq⟩:=map_of2 (f:=vunit) (Q:=fun y=>wf84 y.serial y.values) (xs:=xs) (fun y hy=>by
   obtain ⟨h1,h2⟩:=hx y hy
   rw [tA84] at h2
   obtain ⟨y0,y1,hm,hq⟩:=rt84 h1
   exact ⟨⟨y0,y1⟩,by rw [agg_flat h2,hm]; rfl,hq⟩)
  exact ⟨some l,by rw [h,hl,tC84]; rfl,by rw [hl,List.length_map] at hln; exact ⟨hln,hq⟩⟩
theorem tA22:aggT Tryz.prog 22=false:=by kernel_rfl
theorem tA9:aggT Tryz.prog 9=false:=by kernel_rfl
theorem law4 (xs:List AVal) (h:typedAll Tryz.prog 6 Tryz.f4.params.toList xs):IsoCall Tryz.prog 4 xs (.bool true) false:=by
 rw [Tryz.params4] at h
 obtain ⟨y0,ys0,rfl,h0,h⟩:=h
 obtain ⟨y1,ys1,rfl,h1,h⟩:=h
 rw [show ys1=[] from h]
 obtain ⟨g0,k0⟩:=h0
 rw [tA22] at k0
 obtain ⟨p0_0,e0,q0⟩:=rt22 g0
 rw [flat_one k0] at e0
 obtain rfl:y0=sl 2 vunit p0_0:=(List.cons.inj e0).1
 obtain ⟨g1,k1⟩:=h1
 rw [tA9] at k1
 obtain ⟨p1_0,e1,q1⟩:=rt9 g1
 rw [flat_one k1] at e1
 obtain rfl:y1=.str p1_0:=(List.cons.inj e1).1
 exact callX_ok okE (I4 p0_0 p1_0 (fun u hu=>⟨by rw [← maxLen_eq]; exact (q0.2 u hu).1,by rw [← maxLen_eq]; exact (q0.2 u hu).2.1⟩)) (by simp only [go_sem,seval])
end Go.Z
namespace Go.Proofs.YtoljkienfmckjaaGreatDoor
open Go Go.Abs Go.Z Go.RowKit
theorem z_own:ownKnob Tryz.prog.godebug=none:=by kernel_rfl
theorem z_laid:laidOutB Tryz.prog=true:=by kernel_rfl
theorem tabs_of {W:World} (hsh:W.ShapedOpen Tryz.prog) (h:laidMetH Tryz.prog Rows.lineBackRow.laid W):Tabs Tryz.prog W:=by
 rw [MakeChecks.laidMetH_plain _ _ _ (by kernel_rfl)] at h
 exact tabs_laid (gt:=1) (gl:=0) (t:=212) (e:=192) (tl:=3) (n:=20) (zero:=#[.int .i64 0]) (by kernel_rfl) (by kernel_rfl) (by kernel_rfl) (by kernel_rfl) (by kernel_rfl) (by kernel_rfl) (by kernel_rfl)
  (of_decide_eq_true (by kernel_rfl)) (by kernel_rfl) rfl (by kernel_rfl) (by kernel_rfl) (by kernel_rfl) (List.mem_of_getElem? (i:=2) (by kernel_rfl)) hsh h
theorem law4_lifted (os:Os) (started:os.Started) (H:Type) (enc:TypeId × Value→H):
  ReturnsInHanded {} Tryz.checked os 4 .any (fun w args=>(Rows.lineBackSpec.pre enc Tryz.prog Tryz.f4 Rows.lineBackRow.domain false w args∧laidMetH Tryz.prog Rows.lineBackRow.laid w)∧sizedMet enc Tryz.prog Tryz.f4 (OpenSpec.ofChange Rows.lineBackSpec) false w args) (Rows.lineBackSpec.post enc Tryz.prog Tryz.f4 false true false false):=
 law_lifted_laid (C:=Tryz.checked) (laid:=Rows.lineBackRow.laid) 6 4 (fun _ _ hh h=>h.of_heap hh) z_own started (by kernel_rfl) Tryz.func4
  (ChangeSpec.witness_shaped (enc:=enc) (C:=Tryz.checked) (os:=os) (X:=fun w _=>laidMetH Tryz.prog Rows.lineBackRow.laid w) false (World.laidAll Tryz.prog os Rows.lineBackRow.laid) #[.slice none 0 0,.string ⟨#[]⟩] 8 (World.laidAll_os _ _ _)
   (World.shaped_of_ZipB (by kernel_rfl) (by kernel_rfl)) (by kernel_rfl) (by kernel_rfl) (by kernel_rfl)
   (by rw [MakeChecks.laidMetH_plain _ _ _ (by kernel_rfl)]; exact laidMet_laidAll _ (by kernel_rfl) (by kernel_rfl)))
  rfl rfl Tryz.underlying4 z_laid (by kernel_rfl) (by kernel_rfl)
  (fun ds hd=>by
   rw [Tryz.params4] at hd
   match ds,hd with
   | [d1,d2],_=>exact ⟨rfl,rfl,rfl⟩)
  law4 (fun W hsh h=>tabs_of hsh h)
theorem lineBack_row:Rows.LineBackSaid:=
 OpenClaim.holds_of_wide 4 Tryz.f4 rfl rfl rfl rfl rfl rfl rfl ⟨rfl,rfl,rfl,rfl,rfl⟩ rfl rfl rfl rfl rfl (by kernel_rfl) Tryz.func4 (by kernel_rfl)
  (of_decide_eq_true (by kernel_rfl)) (by unfold Func.isWrapper; first | (rw [if_pos (by decide +kernel)]; kernel_rfl) | (rw [if_neg (by decide +kernel)]; exact ⟨rfl,rfl⟩))
  (fun os started H enc _=>law4_lifted os started H enc)
theorem lineBack_holds:Rows.LineBackCardSaid:=
 Claim7.holds_tied_plain_at .later [] [.data, .data, .data, .data, .pinned] true (true, "fed5af4775e23bb509f061479dbd8b3358ed1e9da73ec038bc3b2d9a29127c68") false
  lineBack_row (fun _ h=>by cases h) (by kernel_rfl) (fun _ h=>by cases h) lineBack_row_tie rfl ⟨rfl,rfl⟩ (by kernel_rfl) rfl
  (fun f fn hf hfn=>by
   obtain rfl : f = 4 := Option.some.inj ((show Tryz.prog.funcNamed "woofer/wooferlaw09.LineBack" = some 4 by kernel_rfl).symm.trans hf) |>.symm
   obtain rfl:fn=Tryz.f4:=(Option.some.inj (Tryz.func4.symm.trans hfn)).symm
   exact ⟨by kernel_rfl,fun j t ht=>by
    rw [Tryz.params4] at ht
    have hm:t∈[22,9]:=by simpa using Array.mem_of_getElem? ht
    have hall:([22,9].all fun u=>!Tryz.prog.wantsStandIn u)=true:=by kernel_rfl
    exact (show Tryz.prog.wantsStandIn t=false by simpa using List.all_eq_true.1 hall t hm)⟩)
  (by kernel_rfl)
end Go.Proofs.YtoljkienfmckjaaGreatDoor
