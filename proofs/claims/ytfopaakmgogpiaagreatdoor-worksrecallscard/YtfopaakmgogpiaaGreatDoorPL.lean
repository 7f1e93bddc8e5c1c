/-
  WorksRecalls returns true for every input, and each argument reads afterwards as it read before (the statement Rows.WorksRecallsSaid). No conditions.
-/
import Derived.Test.YtfopaakmgogpiaaGreatDoorEM
import Derived.Test.YtfopaakmgogpiaaGreatDoorPC
set_option linter.unusedVariables false
set_option linter.unusedSimpArgs false
set_option maxRecDepth 100000
namespace Go.Z
open Go Go.Abs Go.Proofs
theorem qum {α:Type} {f:α→qa} {Q:α→Prop}:∀ {xs:List qa},(∀ y∈xs,∃ a,y=f a∧Q a)→∃ l:List α,xs=l.map f∧∀ a∈l,Q a
 | [],_=>⟨[],rfl,by simp⟩
 | y::xs,h=>by
  obtain ⟨a,ha,hq⟩:=h y (List.mem_cons_self ..)
  obtain ⟨l,hl,hr⟩:=qum (f:=f) (Q:=Q) (fun z hz=>h z (List.mem_cons_of_mem _ hz))
  exact ⟨a::l,by rw [ha,hl]; rfl,fun b hb=>by
   rcases List.mem_cons.1 hb with rfl | hb
   ·exact hq
   ·exact hr b hb⟩
def wf3 (x0:Int):Prop:=(Lit.int .i64 x0).wf=true
def wf9 (x0:List UInt8):Prop:=x0.length≤maxLen
def jkk (x0:Option (List (List UInt8))):Prop:=(x0.getD []).length≤maxLen∧∀ y∈x0.getD [],wf9 y
def jgr (x0:Option (List Int)):Prop:=(x0.getD []).length≤maxLen∧∀ y∈x0.getD [],wf3 y
def jgs (x0:Int) (x1:List UInt8) (x2:Option (List (List UInt8))) (x3:Option (List Int)) (x4:List UInt8):Prop:=wf3 x0∧wf9 x1∧jkk x2∧jgr x3∧wf9 x4
def jrn (x0:Option (List ql)):Prop:=(x0.getD []).length≤maxLen∧∀ y∈x0.getD [],jgs y.number y.kind y.names y.values y.text
theorem rt3 {n:Nat} {cs:List qa} (h:qay Tryz.prog (n + 1) 3 cs):∃ (x0:Int),cs=[.int .i64 x0]∧wf3 x0:=by
 simp only [qay,Tryz.underlying3] at h
 exact h
theorem rt9 {n:Nat} {cs:List qa} (h:qay Tryz.prog (n + 1) 9 cs):∃ (x0:List UInt8),cs=[.str x0]∧wf9 x0:=by
 simp only [qay,Tryz.underlying9] at h
 exact h
theorem tA9:qha Tryz.prog 9=false:=by kernel_rfl
theorem tC9:Tryz.prog.cellsOf 9=1:=by kernel_rfl
theorem je8 {n:Nat} {cs:List qa} (h:qay Tryz.prog (n + 2) 23 cs):∃ (x0:Option (List (List UInt8))),cs=[sl 1 zk x0]∧jkk x0:=by
 rw [qay] at h
 simp only [Tryz.underlying23] at h
 rcases h with h | ⟨xs,h,hln,hx⟩
 ·exact ⟨none,h,by simp [jkk]⟩
 ·obtain ⟨l,hl,hq⟩:=qum (f:=zk) (Q:=fun y=>wf9 y) (xs:=xs) (fun y hy=>by
   obtain ⟨h1,h2⟩:=hx y hy
   rw [tA9] at h2
   obtain ⟨y0,hm,hq⟩:=rt9 h1
   rw [qcb h2] at hm
   exact ⟨y0,(List.cons.inj hm).1,hq⟩)
  exact ⟨some l,by rw [h,hl,tC9]; rfl,by rw [hl,List.length_map] at hln; exact ⟨hln,hq⟩⟩
theorem tA3:qha Tryz.prog 3=false:=by kernel_rfl
theorem tC3:Tryz.prog.cellsOf 3=1:=by kernel_rfl
theorem zg8 {n:Nat} {cs:List qa} (h:qay Tryz.prog (n + 2) 24 cs):∃ (x0:Option (List Int)),cs=[sl 1 kh x0]∧jgr x0:=by
 rw [qay] at h
 simp only [Tryz.underlying24] at h
 rcases h with h | ⟨xs,h,hln,hx⟩
 ·exact ⟨none,h,by simp [jgr]⟩
 ·obtain ⟨l,hl,hq⟩:=qum (f:=kh) (Q:=fun y=>wf3 y) (xs:=xs) (fun y hy=>by
   obtain ⟨h1,h2⟩:=hx y hy
   rw [tA3] at h2
   obtain ⟨y0,hm,hq⟩:=rt3 h1
   rw [qcb h2] at hm
   exact ⟨y0,(List.cons.inj hm).1,hq⟩)
  exact ⟨some l,by rw [h,hl,tC3]; rfl,by rw [hl,List.length_map] at hln; exact ⟨hln,hq⟩⟩
theorem zge {n:Nat} {cs:List qa} (h:qay Tryz.prog (n + 3) 26 cs):∃ (x0:Int) (x1:List UInt8) (x2:Option (List (List UInt8))) (x3:Option (List Int)) (x4:List UInt8),cs=[.int .i64 x0,.str x1,sl 1 zk x2,sl 1 kh x3,.str x4]∧jgs x0 x1 x2 x3 x4:=by
 rw [qay] at h
 simp only [Tryz.underlying26] at h
 obtain ⟨ys0,zs0,rfl,g0,k0⟩:=h
 obtain ⟨x0,rfl,w0⟩:=rt3 g0
 obtain ⟨ys1,zs1,rfl,g1,k1⟩:=k0
 obtain ⟨x1,rfl,w1⟩:=rt9 g1
 obtain ⟨ys2,zs2,rfl,g2,k2⟩:=k1
 obtain ⟨x2,rfl,w2⟩:=je8 g2
 obtain ⟨ys3,zs3,rfl,g3,k3⟩:=k2
 obtain ⟨x3,rfl,w3⟩:=zg8 g3
 obtain ⟨ys4,zs4,rfl,g4,k4⟩:=k3
 obtain ⟨x4,rfl,w4⟩:=rt9 g4
 rw [show zs4=[] from k4]
 exact ⟨x0,x1,x2,x3,x4,rfl,w0,w1,w2,w3,w4⟩
theorem zdq:qha Tryz.prog 26=true:=by kernel_rfl
theorem zeh:Tryz.prog.cellsOf 26=5:=by kernel_rfl
theorem zfl {n:Nat} {cs:List qa} (h:qay Tryz.prog (n + 4) 22 cs):∃ (x0:Option (List ql)),cs=[sl 5 vev x0]∧jrn x0:=by
 rw [qay] at h
 simp only [Tryz.underlying22] at h
 rcases h with h | ⟨xs,h,hln,hx⟩
 ·exact ⟨none,h,by simp [jrn]⟩
 ·obtain ⟨l,hl,hq⟩:=qum (f:=vev) (Q:=fun y=>jgs y.number y.kind y.names y.values y.text) (xs:=xs) (fun y hy=>by
   obtain ⟨h1,h2⟩:=hx y hy
   rw [zdq] at h2
   obtain ⟨y0,y1,y2,y3,y4,hm,hq⟩:=zge h1
   exact ⟨⟨y0,y1,y2,y3,y4⟩,by rw [jh9 h2,hm]; rfl,hq⟩)
  exact ⟨some l,by rw [h,hl,zeh]; rfl,by rw [hl,List.length_map] at hln; exact ⟨hln,hq⟩⟩
theorem zhl:qha Tryz.prog 22=false:=by kernel_rfl
theorem jp5:qha Tryz.prog 23=false:=by kernel_rfl
theorem zg3 (xs:List qa) (h:qpz Tryz.prog 6 Tryz.f6.params.toList xs):IsoCall Tryz.prog 6 xs (.bool true) false:=by
 rw [Tryz.params6] at h
 obtain ⟨y0,ys0,rfl,h0,h⟩:=h
 obtain ⟨y1,ys1,rfl,h1,h⟩:=h
 obtain ⟨y2,ys2,rfl,h2,h⟩:=h
 rw [show ys2=[] from h]
 obtain ⟨g0,k0⟩:=h0
 rw [zhl] at k0
 obtain ⟨p0_0,e0,q0⟩:=zfl g0
 rw [qcb k0] at e0
 obtain rfl:y0=sl 5 vev p0_0:=(List.cons.inj e0).1
 obtain ⟨g1,k1⟩:=h1
 rw [jp5] at k1
 obtain ⟨p1_0,e1,q1⟩:=je8 g1
 rw [qcb k1] at e1
 obtain rfl:y1=sl 1 zk p1_0:=(List.cons.inj e1).1
 obtain ⟨g2,k2⟩:=h2
 rw [jp5] at k2
 obtain ⟨p2_0,e2,q2⟩:=je8 g2
 rw [qcb k2] at e2
 obtain rfl:y2=sl 1 zk p2_0:=(List.cons.inj e2).1
 exact q3k okZ (I6 p0_0 p1_0 p2_0) (by simp only [go_sem,seval])
end Go.Z
namespace Go.Proofs.YtfopaakmgogpiaaGreatDoor
open Go Go.Abs Go.Z Go.RowKit
theorem jon {W:World} (hsh:W.ShapedOpen Tryz.prog) (h:laidMetH Tryz.prog Rows.worksRecallsRow.laid W):Tabs Tryz.prog W:=by
 rw [MakeChecks.laidMetH_plain _ _ _ (by kernel_rfl)] at h
 exact jmd (List.mem_of_getElem? (i:=2) (by kernel_rfl)) hsh h
theorem q6v (os:Os) (started:os.Started) (H:Type) (enc:TypeId × Value→H):
  ReturnsInHanded {} Tryz.checked os 6 .any (fun w args=>(Rows.worksRecallsSpec.pre enc Tryz.prog Tryz.f6 Rows.worksRecallsRow.domain false w args∧laidMetH Tryz.prog Rows.worksRecallsRow.laid w)∧sizedMet enc Tryz.prog Tryz.f6 (OpenSpec.ofChange Rows.worksRecallsSpec) false w args) (Rows.worksRecallsSpec.post enc Tryz.prog Tryz.f6 false true false false):=
 qyr (C:=Tryz.checked) (laid:=Rows.worksRecallsRow.laid) 6 4 (fun _ _ hh h=>h.of_heap hh) j7c started (by kernel_rfl) Tryz.func6
  (ChangeSpec.witness_shaped (enc:=enc) (C:=Tryz.checked) (os:=os) (X:=fun w _=>laidMetH Tryz.prog Rows.worksRecallsRow.laid w) false (World.laidAll Tryz.prog os Rows.worksRecallsRow.laid) #[.slice none 0 0,.slice none 0 0,.slice none 0 0] 8 (World.laidAll_os _ _ _)
   (World.shaped_of_ZipB (by kernel_rfl) (by kernel_rfl)) (by kernel_rfl) (by kernel_rfl) (by kernel_rfl)
   (by rw [MakeChecks.laidMetH_plain _ _ _ (by kernel_rfl)]; exact laidMet_laidAll _ (by kernel_rfl) (by kernel_rfl)))
  rfl rfl Tryz.underlying4 jc4 (by kernel_rfl) (by kernel_rfl)
  (fun ds hd=>by
   rw [Tryz.params6] at hd
   match ds,hd with
   | [d1,d2,d3],_=>exact ⟨rfl,rfl,rfl⟩)
  zg3 (fun W hsh h=>jon hsh h)
theorem qvd:Rows.WorksRecallsSaid:=
 OpenClaim.holds_of_wide 6 Tryz.f6 rfl rfl rfl rfl rfl rfl rfl ⟨rfl,rfl,rfl,rfl,rfl⟩ rfl rfl rfl rfl rfl c6_named2 Tryz.func6 jdl jmj jm8
  (fun os started H enc _=>q6v os started H enc)
theorem worksRecalls_holds:Rows.WorksRecallsCardSaid:=
 Claim7.holds_tied_plain_at .later [] [.data, .data, .data, .data, .pinned] true (true, "6129b98b9c5c6310e220ac45be93c11f79b838ff938c88dd71e495a1e58b721a") false
  qvd (fun _ h=>by cases h) jdy (fun _ h=>by cases h) worksRecalls_row_tie rfl ⟨rfl,rfl⟩ juk rfl
  (fun f fn hf hfn=>by
   obtain rfl:f=6:=Option.some.inj (c6_named2.symm.trans hf) |>.symm
   obtain rfl:fn=Tryz.f6:=(Option.some.inj (Tryz.func6.symm.trans hfn)).symm
   exact ⟨jne,fun j t ht=>by
    rw [Tryz.params6] at ht
    have hm:t∈[22,23,23]:=by simpa using Array.mem_of_getElem? ht
    have hall:([22,23,23].all fun u=>!Tryz.prog.wantsStandIn u)=true:=by kernel_rfl
    exact (show Tryz.prog.wantsStandIn t=false by simpa using List.all_eq_true.1 hall t hm)⟩)
  jms
end Go.Proofs.YtfopaakmgogpiaaGreatDoor
