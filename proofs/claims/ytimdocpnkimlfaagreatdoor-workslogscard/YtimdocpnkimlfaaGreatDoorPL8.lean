/-
  WorksLogs returns true for every input, and each argument reads afterwards as it read before (the statement Rows.WorksLogsSaid). No conditions.
-/
import Derived.Test.YtimdocpnkimlfaaGreatDoorTL8
import Derived.Test.YtimdocpnkimlfaaGreatDoorPC8
set_option linter.unusedVariables false
set_option linter.unusedSimpArgs false
set_option maxRecDepth 100000
namespace Go.Z
open Go Go.Abs Go.Proofs
theorem qti {α:Type} {f:α→AVal} {Q:α→Prop}:∀ {xs:List AVal},(∀ y∈xs,∃ a,y=f a∧Q a)→∃ l:List α,xs=l.map f∧∀ a∈l,Q a
 | [],_=>⟨[],rfl,by simp⟩
 | y::xs,h=>by
  obtain ⟨a,ha,hq⟩:=h y (List.mem_cons_self ..)
  obtain ⟨l,hl,hr⟩:=qti (f:=f) (Q:=Q) (fun z hz=>h z (List.mem_cons_of_mem _ hz))
  exact ⟨a::l,by rw [ha,hl]; rfl,fun b hb=>by
   rcases List.mem_cons.1 hb with rfl | hb
   ·exact hq
   ·exact hr b hb⟩
def wf3 (x0:Int):Prop:=(Lit.int .i64 x0).wf=true
def wf9 (x0:List UInt8):Prop:=x0.length≤maxLen
def q73 (x0:Option (List (List UInt8))):Prop:=(x0.getD []).length≤maxLen∧∀ y∈x0.getD [],wf9 y
def jbz (x0:Option (List Int)):Prop:=(x0.getD []).length≤maxLen∧∀ y∈x0.getD [],wf3 y
def j2h (x0:Int) (x1:List UInt8) (x2:Option (List (List UInt8))) (x3:Option (List Int)) (x4:List UInt8):Prop:=wf3 x0∧wf9 x1∧q73 x2∧jbz x3∧wf9 x4
theorem rt3 {n:Nat} {cs:List AVal} (h:yc Tryz.prog (n + 1) 3 cs):∃ (x0:Int),cs=[.int .i64 x0]∧wf3 x0:=by
 simp only [yc,Tryz.underlying3] at h
 exact h
theorem rt9 {n:Nat} {cs:List AVal} (h:yc Tryz.prog (n + 1) 9 cs):∃ (x0:List UInt8),cs=[.str x0]∧wf9 x0:=by
 simp only [yc,Tryz.underlying9] at h
 exact h
theorem tA9:qe1 Tryz.prog 9=false:=by kernel_rfl
theorem tC9:Tryz.prog.cellsOf 9=1:=by kernel_rfl
theorem j1j {n:Nat} {cs:List AVal} (h:yc Tryz.prog (n + 2) 23 cs):∃ (x0:Option (List (List UInt8))),cs=[sl 1 qv x0]∧q73 x0:=by
 rw [yc] at h
 simp only [Tryz.underlying23] at h
 rcases h with h | ⟨xs,h,hln,hx⟩
 ·exact ⟨none,h,by simp [q73]⟩
 ·obtain ⟨l,hl,hq⟩:=qti (f:=qv) (Q:=fun y=>wf9 y) (xs:=xs) (fun y hy=>by
   obtain ⟨h1,h2⟩:=hx y hy
   rw [tA9] at h2
   obtain ⟨y0,hm,hq⟩:=rt9 h1
   rw [qag h2] at hm
   exact ⟨y0,(List.cons.inj hm).1,hq⟩)
  exact ⟨some l,by rw [h,hl,tC9]; rfl,by rw [hl,List.length_map] at hln; exact ⟨hln,hq⟩⟩
theorem tA3:qe1 Tryz.prog 3=false:=by kernel_rfl
theorem tC3:Tryz.prog.cellsOf 3=1:=by kernel_rfl
theorem j3g {n:Nat} {cs:List AVal} (h:yc Tryz.prog (n + 2) 24 cs):∃ (x0:Option (List Int)),cs=[sl 1 qx x0]∧jbz x0:=by
 rw [yc] at h
 simp only [Tryz.underlying24] at h
 rcases h with h | ⟨xs,h,hln,hx⟩
 ·exact ⟨none,h,by simp [jbz]⟩
 ·obtain ⟨l,hl,hq⟩:=qti (f:=qx) (Q:=fun y=>wf3 y) (xs:=xs) (fun y hy=>by
   obtain ⟨h1,h2⟩:=hx y hy
   rw [tA3] at h2
   obtain ⟨y0,hm,hq⟩:=rt3 h1
   rw [qag h2] at hm
   exact ⟨y0,(List.cons.inj hm).1,hq⟩)
  exact ⟨some l,by rw [h,hl,tC3]; rfl,by rw [hl,List.length_map] at hln; exact ⟨hln,hq⟩⟩
theorem j1e {n:Nat} {cs:List AVal} (h:yc Tryz.prog (n + 3) 26 cs):∃ (x0:Int) (x1:List UInt8) (x2:Option (List (List UInt8))) (x3:Option (List Int)) (x4:List UInt8),cs=[.int .i64 x0,.str x1,sl 1 qv x2,sl 1 qx x3,.str x4]∧j2h x0 x1 x2 x3 x4:=by
 rw [yc] at h
 simp only [Tryz.underlying26] at h
 obtain ⟨ys0,zs0,rfl,g0,k0⟩:=h
 obtain ⟨x0,rfl,w0⟩:=rt3 g0
 obtain ⟨ys1,zs1,rfl,g1,k1⟩:=k0
 obtain ⟨x1,rfl,w1⟩:=rt9 g1
 obtain ⟨ys2,zs2,rfl,g2,k2⟩:=k1
 obtain ⟨x2,rfl,w2⟩:=j1j g2
 obtain ⟨ys3,zs3,rfl,g3,k3⟩:=k2
 obtain ⟨x3,rfl,w3⟩:=j3g g3
 obtain ⟨ys4,zs4,rfl,g4,k4⟩:=k3
 obtain ⟨x4,rfl,w4⟩:=rt9 g4
 rw [show zs4=[] from k4]
 exact ⟨x0,x1,x2,x3,x4,rfl,w0,w1,w2,w3,w4⟩
theorem j27:qe1 Tryz.prog 26=true:=by kernel_rfl
theorem jww (xs:List AVal) (h:qkq Tryz.prog 5 Tryz.f8.params.toList xs):IsoCall Tryz.prog 8 xs (.bool true) false:=by
 rw [Tryz.params8] at h
 obtain ⟨y0,ys0,rfl,h0,h⟩:=h
 obtain ⟨y1,ys1,rfl,h1,h⟩:=h
 rw [show ys1=[] from h]
 obtain ⟨g0,k0⟩:=h0
 rw [j27] at k0
 obtain ⟨p0_0,p0_1,p0_2,p0_3,p0_4,e0,q0⟩:=j1e g0
 obtain ⟨g1,k1⟩:=h1
 rw [tA9] at k1
 obtain ⟨p1_0,e1,q1⟩:=rt9 g1
 rw [qag k1] at e1
 obtain rfl:y1=.str p1_0:=(List.cons.inj e1).1
 rw [jb7 k0,e0]
 exact qyt okS (I8 ⟨p0_0,p0_1,p0_2,p0_3,p0_4⟩ p1_0) (by simp only [go_sem,seval])
end Go.Z
namespace Go.Proofs.YtimdocpnkimlfaaGreatDoor
open Go Go.Abs Go.Z Go.RowKit
theorem jei {W:World} (hsh:W.ShapedOpen Tryz.prog) (h:laidMetH Tryz.prog Rows.worksLogsRow.laid W):Tabs Tryz.prog W:=by
 rw [MakeChecks.laidMetH_plain _ _ _ (by kernel_rfl)] at h
 exact jel (List.mem_of_getElem? (i:=2) (by kernel_rfl)) hsh h
theorem qzn (os:Os) (started:os.Started) (H:Type) (enc:TypeId × Value→H):
  ReturnsInHanded {} Tryz.checked os 8 .any (fun w args=>(Rows.worksLogsSpec.pre enc Tryz.prog Tryz.f8 Rows.worksLogsRow.domain false w args∧laidMetH Tryz.prog Rows.worksLogsRow.laid w)∧sizedMet enc Tryz.prog Tryz.f8 (OpenSpec.ofChange Rows.worksLogsSpec) false w args) (Rows.worksLogsSpec.post enc Tryz.prog Tryz.f8 false true false false):=
 qrk (C:=Tryz.checked) (laid:=Rows.worksLogsRow.laid) 5 4 (fun _ _ hh h=>h.of_heap hh) jsm started (by kernel_rfl) Tryz.func8
  (ChangeSpec.witness_shaped (enc:=enc) (C:=Tryz.checked) (os:=os) (X:=fun w _=>laidMetH Tryz.prog Rows.worksLogsRow.laid w) false (World.laidAll Tryz.prog os Rows.worksLogsRow.laid) #[.agg #[.int .i64 0,.string ⟨#[]⟩,.slice none 0 0,.slice none 0 0,.string ⟨#[]⟩],.string ⟨#[]⟩] 8 (World.laidAll_os _ _ _)
   (World.shaped_of_ZipB (by kernel_rfl) (by kernel_rfl)) (by kernel_rfl) (by kernel_rfl) (by kernel_rfl)
   (by rw [MakeChecks.laidMetH_plain _ _ _ (by kernel_rfl)]; exact laidMet_laidAll _ (by kernel_rfl) (by kernel_rfl)))
  rfl rfl Tryz.underlying4 q4x (by kernel_rfl) (by kernel_rfl)
  (fun ds hd=>by
   rw [Tryz.params8] at hd
   match ds,hd with
   | [d1,d2],_=>exact ⟨rfl,rfl,rfl⟩)
  jww (fun W hsh h=>jei hsh h)
theorem qup:Rows.WorksLogsSaid:=
 OpenClaim.holds_of_wide 8 Tryz.f8 rfl rfl rfl rfl rfl rfl rfl ⟨rfl,rfl,rfl,rfl,rfl⟩ rfl rfl rfl rfl rfl c8_named2 Tryz.func8 q6q jd1 jdw
  (fun os started H enc _=>qzn os started H enc)
theorem worksLogs_holds:Rows.WorksLogsCardSaid:=
 Claim7.holds_tied_plain_at .later [] [.data, .data, .data, .data, .pinned] true (true, "1bd47a6b7e681e5c8bd85b252bc129e10370a18833b6d87933be64800e006a4c") false
  qup (fun _ h=>by cases h) q53 (fun _ h=>by cases h) worksLogs_row_tie rfl ⟨rfl,rfl⟩ jf3 rfl
  (fun f fn hf hfn=>by
   obtain rfl:f=8:=Option.some.inj (c8_named2.symm.trans hf) |>.symm
   obtain rfl:fn=Tryz.f8:=(Option.some.inj (Tryz.func8.symm.trans hfn)).symm
   exact ⟨jez,fun j t ht=>by
    rw [Tryz.params8] at ht
    have hm:t∈[26,9]:=by simpa using Array.mem_of_getElem? ht
    have hall:([26,9].all fun u=>!Tryz.prog.wantsStandIn u)=true:=by kernel_rfl
    exact (show Tryz.prog.wantsStandIn t=false by simpa using List.all_eq_true.1 hall t hm)⟩)
  jdq
end Go.Proofs.YtimdocpnkimlfaaGreatDoor
