/-
  WorksTraces returns true for every input, and each argument reads afterwards as it read before (the statement Rows.WorksTracesSaid). No conditions.
-/
import Derived.Test.YtfopaakmgogpiaaGreatDoorEM
import Derived.Test.YtfopaakmgogpiaaGreatDoorPC
set_option linter.unusedVariables false
set_option linter.unusedSimpArgs false
set_option maxRecDepth 100000
namespace Go.Z
open Go Go.Abs Go.Proofs
theorem qtm {α:Type} {f:α→qa} {Q:α→Prop}:∀ {xs:List qa},(∀ y∈xs,∃ a,y=f a∧Q a)→∃ l:List α,xs=l.map f∧∀ a∈l,Q a
 | [],_=>⟨[],rfl,by simp⟩
 | y::xs,h=>by
  obtain ⟨a,ha,hq⟩:=h y (List.mem_cons_self ..)
  obtain ⟨l,hl,hr⟩:=qtm (f:=f) (Q:=Q) (fun z hz=>h z (List.mem_cons_of_mem _ hz))
  exact ⟨a::l,by rw [ha,hl]; rfl,fun b hb=>by
   rcases List.mem_cons.1 hb with rfl | hb
   ·exact hq
   ·exact hr b hb⟩
def wf3 (x0:Int):Prop:=(Lit.int .i64 x0).wf=true
def wf9 (x0:List UInt8):Prop:=x0.length≤maxLen
def jes (x0:Option (List (List UInt8))):Prop:=(x0.getD []).length≤maxLen∧∀ y∈x0.getD [],wf9 y
def jgb (x0:Option (List Int)):Prop:=(x0.getD []).length≤maxLen∧∀ y∈x0.getD [],wf3 y
def jg9 (x0:Int) (x1:List UInt8) (x2:Option (List (List UInt8))) (x3:Option (List Int)) (x4:List UInt8):Prop:=wf3 x0∧wf9 x1∧jes x2∧jgb x3∧wf9 x4
def jnw (x0:Option (List ql)):Prop:=(x0.getD []).length≤maxLen∧∀ y∈x0.getD [],jg9 y.number y.kind y.names y.values y.text
theorem rt3 {n:Nat} {cs:List qa} (h:qaw Tryz.prog (n + 1) 3 cs):∃ (x0:Int),cs=[.int .i64 x0]∧wf3 x0:=by
 simp only [qaw,Tryz.underlying3] at h
 exact h
theorem rt9 {n:Nat} {cs:List qa} (h:qaw Tryz.prog (n + 1) 9 cs):∃ (x0:List UInt8),cs=[.str x0]∧wf9 x0:=by
 simp only [qaw,Tryz.underlying9] at h
 exact h
theorem tA9:qhd Tryz.prog 9=false:=by kernel_rfl
theorem tC9:Tryz.prog.cellsOf 9=1:=by kernel_rfl
theorem zd4 {n:Nat} {cs:List qa} (h:qaw Tryz.prog (n + 2) 23 cs):∃ (x0:Option (List (List UInt8))),cs=[sl 1 yp x0]∧jes x0:=by
 rw [qaw] at h
 simp only [Tryz.underlying23] at h
 rcases h with h | ⟨xs,h,hln,hx⟩
 ·exact ⟨none,h,by simp [jes]⟩
 ·obtain ⟨l,hl,hq⟩:=qtm (f:=yp) (Q:=fun y=>wf9 y) (xs:=xs) (fun y hy=>by
   obtain ⟨h1,h2⟩:=hx y hy
   rw [tA9] at h2
   obtain ⟨y0,hm,hq⟩:=rt9 h1
   rw [qcl h2] at hm
   exact ⟨y0,(List.cons.inj hm).1,hq⟩)
  exact ⟨some l,by rw [h,hl,tC9]; rfl,by rw [hl,List.length_map] at hln; exact ⟨hln,hq⟩⟩
theorem tA3:qhd Tryz.prog 3=false:=by kernel_rfl
theorem tC3:Tryz.prog.cellsOf 3=1:=by kernel_rfl
theorem j9s {n:Nat} {cs:List qa} (h:qaw Tryz.prog (n + 2) 24 cs):∃ (x0:Option (List Int)),cs=[sl 1 kn x0]∧jgb x0:=by
 rw [qaw] at h
 simp only [Tryz.underlying24] at h
 rcases h with h | ⟨xs,h,hln,hx⟩
 ·exact ⟨none,h,by simp [jgb]⟩
 ·obtain ⟨l,hl,hq⟩:=qtm (f:=kn) (Q:=fun y=>wf3 y) (xs:=xs) (fun y hy=>by
   obtain ⟨h1,h2⟩:=hx y hy
   rw [tA3] at h2
   obtain ⟨y0,hm,hq⟩:=rt3 h1
   rw [qcl h2] at hm
   exact ⟨y0,(List.cons.inj hm).1,hq⟩)
  exact ⟨some l,by rw [h,hl,tC3]; rfl,by rw [hl,List.length_map] at hln; exact ⟨hln,hq⟩⟩
theorem j86 {n:Nat} {cs:List qa} (h:qaw Tryz.prog (n + 3) 26 cs):∃ (x0:Int) (x1:List UInt8) (x2:Option (List (List UInt8))) (x3:Option (List Int)) (x4:List UInt8),cs=[.int .i64 x0,.str x1,sl 1 yp x2,sl 1 kn x3,.str x4]∧jg9 x0 x1 x2 x3 x4:=by
 rw [qaw] at h
 simp only [Tryz.underlying26] at h
 obtain ⟨ys0,zs0,rfl,g0,k0⟩:=h
 obtain ⟨x0,rfl,w0⟩:=rt3 g0
 obtain ⟨ys1,zs1,rfl,g1,k1⟩:=k0
 obtain ⟨x1,rfl,w1⟩:=rt9 g1
 obtain ⟨ys2,zs2,rfl,g2,k2⟩:=k1
 obtain ⟨x2,rfl,w2⟩:=zd4 g2
 obtain ⟨ys3,zs3,rfl,g3,k3⟩:=k2
 obtain ⟨x3,rfl,w3⟩:=j9s g3
 obtain ⟨ys4,zs4,rfl,g4,k4⟩:=k3
 obtain ⟨x4,rfl,w4⟩:=rt9 g4
 rw [show zs4=[] from k4]
 exact ⟨x0,x1,x2,x3,x4,rfl,w0,w1,w2,w3,w4⟩
theorem zax:qhd Tryz.prog 26=true:=by kernel_rfl
theorem zht:Tryz.prog.cellsOf 26=5:=by kernel_rfl
theorem zbu {n:Nat} {cs:List qa} (h:qaw Tryz.prog (n + 4) 22 cs):∃ (x0:Option (List ql)),cs=[sl 5 vev x0]∧jnw x0:=by
 rw [qaw] at h
 simp only [Tryz.underlying22] at h
 rcases h with h | ⟨xs,h,hln,hx⟩
 ·exact ⟨none,h,by simp [jnw]⟩
 ·obtain ⟨l,hl,hq⟩:=qtm (f:=vev) (Q:=fun y=>jg9 y.number y.kind y.names y.values y.text) (xs:=xs) (fun y hy=>by
   obtain ⟨h1,h2⟩:=hx y hy
   rw [zax] at h2
   obtain ⟨y0,y1,y2,y3,y4,hm,hq⟩:=j86 h1
   exact ⟨⟨y0,y1,y2,y3,y4⟩,by rw [jho h2,hm]; rfl,hq⟩)
  exact ⟨some l,by rw [h,hl,zht]; rfl,by rw [hl,List.length_map] at hln; exact ⟨hln,hq⟩⟩
theorem zbj:qhd Tryz.prog 22=false:=by kernel_rfl
theorem j8x (xs:List qa) (h:qpk Tryz.prog 6 Tryz.f5.params.toList xs):IsoCall Tryz.prog 5 xs (.bool true) false:=by
 rw [Tryz.params5] at h
 obtain ⟨y0,ys0,rfl,h0,h⟩:=h
 obtain ⟨y1,ys1,rfl,h1,h⟩:=h
 rw [show ys1=[] from h]
 obtain ⟨g0,k0⟩:=h0
 rw [zbj] at k0
 obtain ⟨p0_0,e0,q0⟩:=zbu g0
 rw [qcl k0] at e0
 obtain rfl:y0=sl 5 vev p0_0:=(List.cons.inj e0).1
 obtain ⟨g1,k1⟩:=h1
 rw [tA9] at k1
 obtain ⟨p1_0,e1,q1⟩:=rt9 g1
 rw [qcl k1] at e1
 obtain rfl:y1=.str p1_0:=(List.cons.inj e1).1
 exact q1x okZ (I5 p0_0 p1_0) (by simp only [go_sem,seval])
end Go.Z
namespace Go.Proofs.YtfopaakmgogpiaaGreatDoor
open Go Go.Abs Go.Z Go.RowKit
theorem jmy {W:World} (hsh:W.ShapedOpen Tryz.prog) (h:laidMetH Tryz.prog Rows.worksTracesRow.laid W):Tabs Tryz.prog W:=by
 rw [MakeChecks.laidMetH_plain _ _ _ (by kernel_rfl)] at h
 exact jl0 (List.mem_of_getElem? (i:=2) (by kernel_rfl)) hsh h
theorem q5f (os:Os) (started:os.Started) (H:Type) (enc:TypeId × Value→H):
  ReturnsInHanded {} Tryz.checked os 5 .any (fun w args=>(Rows.worksTracesSpec.pre enc Tryz.prog Tryz.f5 Rows.worksTracesRow.domain false w args∧laidMetH Tryz.prog Rows.worksTracesRow.laid w)∧sizedMet enc Tryz.prog Tryz.f5 (OpenSpec.ofChange Rows.worksTracesSpec) false w args) (Rows.worksTracesSpec.post enc Tryz.prog Tryz.f5 false true false false):=
 qvc (C:=Tryz.checked) (laid:=Rows.worksTracesRow.laid) 6 4 (fun _ _ hh h=>h.of_heap hh) j4m started (by kernel_rfl) Tryz.func5
  (ChangeSpec.witness_shaped (enc:=enc) (C:=Tryz.checked) (os:=os) (X:=fun w _=>laidMetH Tryz.prog Rows.worksTracesRow.laid w) false (World.laidAll Tryz.prog os Rows.worksTracesRow.laid) #[.slice none 0 0,.string ⟨#[]⟩] 8 (World.laidAll_os _ _ _)
   (World.shaped_of_ZipB (by kernel_rfl) (by kernel_rfl)) (by kernel_rfl) (by kernel_rfl) (by kernel_rfl)
   (by rw [MakeChecks.laidMetH_plain _ _ _ (by kernel_rfl)]; exact laidMet_laidAll _ (by kernel_rfl) (by kernel_rfl)))
  rfl rfl Tryz.underlying4 ja4 (by kernel_rfl) (by kernel_rfl)
  (fun ds hd=>by
   rw [Tryz.params5] at hd
   match ds,hd with
   | [d1,d2],_=>exact ⟨rfl,rfl,rfl⟩)
  j8x (fun W hsh h=>jmy hsh h)
theorem qxw:Rows.WorksTracesSaid:=
 OpenClaim.holds_of_wide 5 Tryz.f5 rfl rfl rfl rfl rfl rfl rfl ⟨rfl,rfl,rfl,rfl,rfl⟩ rfl rfl rfl rfl rfl c5_named2 Tryz.func5 jbk jkt jls
  (fun os started H enc _=>q5f os started H enc)
theorem worksTraces_holds:Rows.WorksTracesCardSaid:=
 Claim7.holds_tied_plain_at .later [] [.data, .data, .data, .data, .pinned] true (true, "6129b98b9c5c6310e220ac45be93c11f79b838ff938c88dd71e495a1e58b721a") false
  qxw (fun _ h=>by cases h) jba (fun _ h=>by cases h) worksTraces_row_tie rfl ⟨rfl,rfl⟩ jsw rfl
  (fun f fn hf hfn=>by
   obtain rfl:f=5:=Option.some.inj (c5_named2.symm.trans hf) |>.symm
   obtain rfl:fn=Tryz.f5:=(Option.some.inj (Tryz.func5.symm.trans hfn)).symm
   exact ⟨jly,fun j t ht=>by
    rw [Tryz.params5] at ht
    have hm:t∈[22,9]:=by simpa using Array.mem_of_getElem? ht
    have hall:([22,9].all fun u=>!Tryz.prog.wantsStandIn u)=true:=by kernel_rfl
    exact (show Tryz.prog.wantsStandIn t=false by simpa using List.all_eq_true.1 hall t hm)⟩)
  jl4
end Go.Proofs.YtfopaakmgogpiaaGreatDoor
