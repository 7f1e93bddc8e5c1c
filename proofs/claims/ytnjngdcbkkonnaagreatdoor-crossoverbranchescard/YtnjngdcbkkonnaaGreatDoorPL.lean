/-
  CrossoverBranches returns true for every input, and each argument reads afterwards as it read before (the statement Rows.CrossoverBranchesSaid). No conditions.
-/
import Derived.Test.YtnjngdcbkkonnaaGreatDoorPV
import Derived.Test.YtnjngdcbkkonnaaGreatDoorPY
import Derived.Test.YtnjngdcbkkonnaaGreatDoorPC
set_option linter.unusedVariables false
set_option linter.unusedSimpArgs false
set_option maxRecDepth 100000
namespace Go.Z
open Go Go.Abs Go.Proofs
theorem map_of2 {α:Type} {f:α→AVal} {Q:α→Prop}:∀ {xs:List AVal},(∀ y∈xs,∃ a,y=f a∧Q a)→∃ l:List α,xs=l.map f∧∀ a∈l,Q a
 | [],_=>⟨[],rfl,by simp⟩
 | y::xs,h=>by
  obtain ⟨a,ha,hq⟩:=h y (List.mem_cons_self ..)
  obtain ⟨l,hl,hr⟩:=map_of2 (f:=f) (Q:=Q) (fun z hz=>h z (List.mem_cons_of_mem _ hz))
  exact ⟨a::l,by rw [ha,hl]; rfl,fun b hb=>by
   rcases List.mem_cons.1 hb with rfl | hb
   ·exact hq
   ·exact hr b hb⟩
def wf9 (x0:List UInt8):Prop:=x0.length≤maxLen
def wf3 (x0:Int):Prop:=(Lit.int .i64 x0).wf=true
def wf23 (x0:List UInt8) (x1:Int) (x2:Int):Prop:=wf9 x0∧wf3 x1∧wf3 x2
def wf38 (x0:Option (List GEl)):Prop:=(x0.getD []).length≤maxLen∧∀ y∈x0.getD [],wf23 y.kind y.a y.b
def wf78 (x0:Option (List GEl)) (x1:Option (List GEl)) (x2:Int) (x3:Int):Prop:=wf38 x0∧wf38 x1∧wf3 x2∧wf3 x3
theorem rt9 {n:Nat} {cs:List AVal} (h:typedC Tryz.prog (n + 1) 9 cs):∃ (x0:List UInt8),cs=[.str x0]∧wf9 x0:=by
 simp only [typedC,Tryz.underlying9] at h
 exact h
theorem rt3 {n:Nat} {cs:List AVal} (h:typedC Tryz.prog (n + 1) 3 cs):∃ (x0:Int),cs=[.int .i64 x0]∧wf3 x0:=by
 simp only [typedC,Tryz.underlying3] at h
 exact h
theorem rt23 {n:Nat} {cs:List AVal} (h:typedC Tryz.prog (n + 2) 23 cs):∃ (x0:List UInt8) (x1:Int) (x2:Int),cs=[.str x0,.int .i64 x1,.int .i64 x2]∧wf23 x0 x1 x2:=by
 rw [typedC] at h
 simp only [Tryz.underlying23] at h
 obtain ⟨ys0,zs0,rfl,g0,k0⟩:=h
 obtain ⟨x0,rfl,w0⟩:=rt9 g0
 obtain ⟨ys1,zs1,rfl,g1,k1⟩:=k0
 obtain ⟨x1,rfl,w1⟩:=rt3 g1
 obtain ⟨ys2,zs2,rfl,g2,k2⟩:=k1
 obtain ⟨x2,rfl,w2⟩:=rt3 g2
 rw [show zs2=[] from k2]
 exact ⟨x0,x1,x2,rfl,w0,w1,w2⟩
theorem tA23:aggT Tryz.prog 23=true:=by kernel_rfl
theorem tC23:Tryz.prog.cellsOf 23=3:=by kernel_rfl
theorem rt38 {n:Nat} {cs:List AVal} (h:typedC Tryz.prog (n + 3) 38 cs):∃ (x0:Option (List GEl)),cs=[sl 3 vel x0]∧wf38 x0:=by
 rw [typedC] at h
 simp only [Tryz.underlying38] at h
 rcases h with h | ⟨xs,h,hln,hx⟩
 ·exact ⟨none,h,by simp [wf38]⟩
 ·obtain ⟨l,hl,hq⟩:=map_of2 (f:=vel) (Q:=fun y=>wf23 y.kind y.a y.b) (xs:=xs) (fun y hy=>by
   obtain ⟨h1,h2⟩:=hx y hy
   rw [tA23] at h2
   obtain ⟨y0,y1,y2,hm,hq⟩:=rt23 h1
   exact ⟨⟨y0,y1,y2⟩,by rw [agg_flat h2,hm]; rfl,hq⟩)
  exact ⟨some l,by rw [h,hl,tC23]; rfl,by rw [hl,List.length_map] at hln; exact ⟨hln,hq⟩⟩
theorem rt78 {n:Nat} {cs:List AVal} (h:typedC Tryz.prog (n + 4) 78 cs):∃ (x0:Option (List GEl)) (x1:Option (List GEl)) (x2:Int) (x3:Int),cs=[sl 3 vel x0,sl 3 vel x1,.int .i64 x2,.int .i64 x3]∧wf78 x0 x1 x2 x3:=by
 rw [typedC] at h
 simp only [Tryz.underlying78] at h
 obtain ⟨ys0,zs0,rfl,g0,k0⟩:=h
 obtain ⟨x0,rfl,w0⟩:=rt38 g0
 obtain ⟨ys1,zs1,rfl,g1,k1⟩:=k0
 obtain ⟨x1,rfl,w1⟩:=rt38 g1
 obtain ⟨ys2,zs2,rfl,g2,k2⟩:=k1
 obtain ⟨x2,rfl,w2⟩:=rt3 g2
 obtain ⟨ys3,zs3,rfl,g3,k3⟩:=k2
 obtain ⟨x3,rfl,w3⟩:=rt3 g3
 rw [show zs3=[] from k3]
 exact ⟨x0,x1,x2,x3,rfl,w0,w1,w2,w3⟩
theorem tA78:aggT Tryz.prog 78=true:=by kernel_rfl
theorem law8 (xs:List AVal) (h:typedAll Tryz.prog 6 Tryz.f8.params.toList xs):IsoCall Tryz.prog 8 xs (.bool true) false:=by
 rw [Tryz.params8] at h
 obtain ⟨y0,ys0,rfl,h0,h⟩:=h
 rw [show ys0=[] from h]
 obtain ⟨g0,k0⟩:=h0
 rw [tA78] at k0
 obtain ⟨p0_0,p0_1,p0_2,p0_3,e0,q0⟩:=rt78 g0
 rw [agg_flat k0,e0]
 exact callX_ok okZ (I8 ⟨p0_0,p0_1,p0_2,p0_3⟩) (by simp only [go_sem,seval])
end Go.Z
namespace Go.Proofs.YtnjngdcbkkonnaaGreatDoor
open Go Go.Abs Go.Z Go.RowKit
theorem tabs_of {W:World} (hsh:W.ShapedOpen Tryz.prog) (h:laidMetH Tryz.prog Rows.crossoverBranchesRow.laid W):Tabs Tryz.prog W:=by
 rw [MakeChecks.laidMetH_plain _ _ _ (by kernel_rfl)] at h
 exact tabs_c4 (List.mem_of_getElem? (i:=2) (by kernel_rfl)) (List.mem_of_getElem? (i:=3) (by kernel_rfl)) (List.mem_of_getElem? (i:=4) (by kernel_rfl)) hsh h
theorem law8_lifted (os:Os) (started:os.Started) (H:Type) (enc:TypeId × Value→H):
  ReturnsInHanded {} Tryz.checked os 8 .any (fun w args=>(Rows.crossoverBranchesSpec.pre enc Tryz.prog Tryz.f8 Rows.crossoverBranchesRow.domain false w args∧laidMetH Tryz.prog Rows.crossoverBranchesRow.laid w)∧sizedMet enc Tryz.prog Tryz.f8 (OpenSpec.ofChange Rows.crossoverBranchesSpec) false w args) (Rows.crossoverBranchesSpec.post enc Tryz.prog Tryz.f8 false true false false):=
 law_lifted_laid (C:=Tryz.checked) (laid:=Rows.crossoverBranchesRow.laid) 6 4 (fun _ _ hh h=>h.of_heap hh) z_own started (by kernel_rfl) Tryz.func8
  (ChangeSpec.witness_shaped (enc:=enc) (C:=Tryz.checked) (os:=os) (X:=fun w _=>laidMetH Tryz.prog Rows.crossoverBranchesRow.laid w) false (World.laidAll Tryz.prog os Rows.crossoverBranchesRow.laid) #[.agg #[.slice none 0 0,.slice none 0 0,.int .i64 0,.int .i64 0]] 8 (World.laidAll_os _ _ _)
   (World.shaped_of_ZipB (by kernel_rfl) (by kernel_rfl)) (by kernel_rfl) (by kernel_rfl) (by kernel_rfl)
   (by rw [MakeChecks.laidMetH_plain _ _ _ (by kernel_rfl)]; exact laidMet_laidAll _ (by kernel_rfl) (by kernel_rfl)))
  rfl rfl Tryz.underlying4 z_laid (by kernel_rfl) (by kernel_rfl)
  (fun ds hd=>by
   rw [Tryz.params8] at hd
   match ds,hd with
   | [d1],_=>exact ⟨rfl,rfl,rfl⟩)
  law8 (fun W hsh h=>tabs_of hsh h)
theorem crossoverBranches_row:Rows.CrossoverBranchesSaid:=
 OpenClaim.holds_of_wide 8 Tryz.f8 rfl rfl rfl rfl rfl rfl rfl ⟨rfl,rfl,rfl,rfl,rfl⟩ rfl rfl rfl rfl rfl c8_named2 Tryz.func8 c8_closed c8_inst c8_wrap
  (fun os started H enc _=>law8_lifted os started H enc)
theorem crossoverBranches_holds:Rows.CrossoverBranchesCardSaid:=
 Claim7.holds_tied_plain_at .later [] [.data, .data, .data, .data, .data] true (true, "1b137b5074cd62955587cfa04bcaa679776963b89422bbb2bd8fd54760d6b645") false
  crossoverBranches_row (fun _ h=>by cases h) c8_wfText (fun _ h=>by cases h) crossoverBranches_row_tie rfl ⟨rfl,rfl⟩ x_main rfl
  (fun f fn hf hfn=>by
   obtain rfl:f=8:=Option.some.inj (c8_named2.symm.trans hf) |>.symm
   obtain rfl:fn=Tryz.f8:=(Option.some.inj (Tryz.func8.symm.trans hfn)).symm
   exact ⟨x_looks,fun j t ht=>by
    rw [Tryz.params8] at ht
    have hm:t∈[78]:=by simpa using Array.mem_of_getElem? ht
    have hall:([78].all fun u=>!Tryz.prog.wantsStandIn u)=true:=by kernel_rfl
    exact (show Tryz.prog.wantsStandIn t=false by simpa using List.all_eq_true.1 hall t hm)⟩)
  c8_goes
end Go.Proofs.YtnjngdcbkkonnaaGreatDoor
