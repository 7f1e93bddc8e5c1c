/-
  TopCoilCrashes returns true for every input, and each argument reads afterwards as it read before (the statement Rows.TopCoilCrashesSaid). No conditions.
-/
import Derived.Test.YtoaianfagfampaaGreatDoorTK
import Derived.Test.YtoaianfagfampaaGreatDoorPC
set_option linter.all false
set_option maxRecDepth 100000
namespace Go.Z
open Go Go.Abs Go.Proofs
theorem qs5 {α:Type} {f:α→AVal}:∀ {xs:List AVal},(∀ y∈xs,∃ a,y=f a)→∃ l:List α,xs=l.map f
 | [],_=>⟨[],rfl⟩
 | y::xs,h=>by
  obtain ⟨a,rfl⟩:=h y (List.mem_cons_self ..)
  obtain ⟨l,rfl⟩:=qs5 (f:=f) (fun z hz=>h z (List.mem_cons_of_mem _ hz))
  exact ⟨a::l,rfl⟩
theorem rt3 {n:Nat} {cs:List AVal} (h:yt Tryz.prog (n + 1) 3 cs):∃ (x0:Int),cs=[.int .i64 x0]:=by
 simp only [yt,Tryz.underlying3] at h
 obtain ⟨x,h,-⟩:=h
 exact ⟨x,h⟩
theorem rt9 {n:Nat} {cs:List AVal} (h:yt Tryz.prog (n + 1) 9 cs):∃ (x0:List UInt8),cs=[.str x0]:=by
 simp only [yt,Tryz.underlying9] at h
 obtain ⟨x,h,-⟩:=h
 exact ⟨x,h⟩
theorem tA9:qhb Tryz.prog 9=false:=by kernel_rfl
theorem tC9:Tryz.prog.cellsOf 9=1:=by kernel_rfl
theorem j80 {n:Nat} {cs:List AVal} (h:yt Tryz.prog (n + 2) 35 cs):∃ (x0:Option (List (List UInt8))),cs=[sl 1 jf x0]:=by
 rw [yt] at h
 simp only [Tryz.underlying35] at h
 rcases h with h | ⟨xs,h,-,hx⟩
 ·exact ⟨none,h⟩
 ·obtain ⟨l,rfl⟩:=qs5 (f:=jf) (fun y hy=>by
   obtain ⟨h1,h2⟩:=hx y hy
   rw [tA9] at h2
   obtain ⟨y0,hm⟩:=rt9 h1
   rw [qbk h2] at hm
   exact ⟨y0,(List.cons.inj hm).1⟩)
  exact ⟨some l,by rw [h,tC9]; rfl⟩
theorem tA3:qhb Tryz.prog 3=false:=by kernel_rfl
theorem tC3:Tryz.prog.cellsOf 3=1:=by kernel_rfl
theorem za5 {n:Nat} {cs:List AVal} (h:yt Tryz.prog (n + 2) 36 cs):∃ (x0:Option (List Int)),cs=[sl 1 zg x0]:=by
 rw [yt] at h
 simp only [Tryz.underlying36] at h
 rcases h with h | ⟨xs,h,-,hx⟩
 ·exact ⟨none,h⟩
 ·obtain ⟨l,rfl⟩:=qs5 (f:=zg) (fun y hy=>by
   obtain ⟨h1,h2⟩:=hx y hy
   rw [tA3] at h2
   obtain ⟨y0,hm⟩:=rt3 h1
   rw [qbk h2] at hm
   exact ⟨y0,(List.cons.inj hm).1⟩)
  exact ⟨some l,by rw [h,tC3]; rfl⟩
theorem zbf {n:Nat} {cs:List AVal} (h:yt Tryz.prog (n + 3) 38 cs):∃ (x0:Int) (x1:List UInt8) (x2:Option (List (List UInt8))) (x3:Option (List Int)) (x4:List UInt8),cs=[.int .i64 x0,.str x1,sl 1 jf x2,sl 1 zg x3,.str x4]:=by
 rw [yt] at h
 simp only [Tryz.underlying38] at h
 obtain ⟨ys0,zs0,rfl,g0,k0⟩:=h
 obtain ⟨x0,rfl⟩:=rt3 g0
 obtain ⟨ys1,zs1,rfl,g1,k1⟩:=k0
 obtain ⟨x1,rfl⟩:=rt9 g1
 obtain ⟨ys2,zs2,rfl,g2,k2⟩:=k1
 obtain ⟨x2,rfl⟩:=j80 g2
 obtain ⟨ys3,zs3,rfl,g3,k3⟩:=k2
 obtain ⟨x3,rfl⟩:=za5 g3
 obtain ⟨ys4,zs4,rfl,g4,k4⟩:=k3
 obtain ⟨x4,rfl⟩:=rt9 g4
 rw [show zs4=[] from k4]
 exact ⟨x0,x1,x2,x3,x4,rfl⟩
theorem j8w:qhb Tryz.prog 38=true:=by kernel_rfl
theorem j7y:Tryz.prog.cellsOf 38=5:=by kernel_rfl
theorem zbj {n:Nat} {cs:List AVal} (h:yt Tryz.prog (n + 4) 22 cs):∃ (x0:Option (List GEv)),cs=[sl 5 vev x0]:=by
 rw [yt] at h
 simp only [Tryz.underlying22] at h
 rcases h with h | ⟨xs,h,-,hx⟩
 ·exact ⟨none,h⟩
 ·obtain ⟨l,rfl⟩:=qs5 (f:=vev) (fun y hy=>by
   obtain ⟨h1,h2⟩:=hx y hy
   rw [j8w] at h2
   obtain ⟨y0,y1,y2,y3,y4,hm⟩:=zbf h1
   exact ⟨⟨y0,y1,y2,y3,y4⟩,by rw [jjh h2,hm]; rfl⟩)
  exact ⟨some l,by rw [h,j7y]; rfl⟩
def j8j (x0:Int):Prop:=(Lit.int .u16 x0).wf=true
theorem j63 {n:Nat} {cs:List AVal} (h:yt Tryz.prog (n + 1) 23 cs):∃ (x0:Int),cs=[.int .u16 x0]∧j8j x0:=by
 simp only [yt,Tryz.underlying23] at h
 exact h
theorem zbl:qhb Tryz.prog 22=false:=by kernel_rfl
theorem j6z:qhb Tryz.prog 23=false:=by kernel_rfl
theorem j4u (xs:List AVal) (h:qph Tryz.prog 6 Tryz.f3.params.toList xs):IsoCall Tryz.prog 3 xs (.bool true) false:=by
 rw [Tryz.params3] at h
 obtain ⟨y0,ys0,rfl,h0,h⟩:=h
 obtain ⟨y1,ys1,rfl,h1,h⟩:=h
 rw [show ys1=[] from h]
 obtain ⟨g0,k0⟩:=h0
 rw [zbl] at k0
 obtain ⟨p0_0,e0⟩:=zbj g0
 rw [qbk k0] at e0
 obtain rfl:y0=sl 5 vev p0_0:=(List.cons.inj e0).1
 obtain ⟨g1,k1⟩:=h1
 rw [j6z] at k1
 obtain ⟨p1_0,e1,q1⟩:=j63 g1
 rw [qbk k1] at e1
 obtain rfl:y1=.int .u16 p1_0:=(List.cons.inj e1).1
 exact jlx okS (I3 p0_0 p1_0 (jgs q1)) (by simp only [go_sem,seval])
end Go.Z
namespace Go.Proofs.YtoaianfagfampaaGreatDoor
open Go Go.Abs Go.Z Go.RowKit
theorem jnr {W:World} (hsh:W.ShapedOpen Tryz.prog) (h:laidMetH Tryz.prog Rows.topCoilCrashesRow.laid W):Tabs Tryz.prog W:=by
 rw [MakeChecks.laidMetH_plain _ _ _ (by kernel_rfl)] at h
 exact jqt (List.mem_of_getElem? (i:=2) (by kernel_rfl)) hsh h
theorem q8u (os:Os) (started:os.Started) (H:Type) (enc:TypeId × Value→H):
  ReturnsInHanded {} Tryz.checked os 3 .any (fun w args=>(Rows.topCoilCrashesSpec.pre enc Tryz.prog Tryz.f3 Rows.topCoilCrashesRow.domain false w args∧laidMetH Tryz.prog Rows.topCoilCrashesRow.laid w)∧sizedMet enc Tryz.prog Tryz.f3 (OpenSpec.ofChange Rows.topCoilCrashesSpec) false w args) (Rows.topCoilCrashesSpec.post enc Tryz.prog Tryz.f3 false true false false):=
 q0p (C:=Tryz.checked) (laid:=Rows.topCoilCrashesRow.laid) 6 4 (fun _ _ hh h=>h.of_heap hh) jy1 started (by kernel_rfl) Tryz.func3
  (ChangeSpec.witness_shaped (enc:=enc) (C:=Tryz.checked) (os:=os) (X:=fun w _=>laidMetH Tryz.prog Rows.topCoilCrashesRow.laid w) false (World.laidAll Tryz.prog os Rows.topCoilCrashesRow.laid) #[.slice none 0 0,.int .u16 0] 8 (World.laidAll_os _ _ _)
   (World.shaped_of_ZipB (by kernel_rfl) (by kernel_rfl)) (by kernel_rfl) (by kernel_rfl) (by kernel_rfl)
   (by rw [MakeChecks.laidMetH_plain _ _ _ (by kernel_rfl)]; exact laidMet_laidAll _ (by kernel_rfl) (by kernel_rfl)))
  rfl rfl Tryz.underlying4 jet (by kernel_rfl) (by kernel_rfl)
  (fun ds hd=>by
   rw [Tryz.params3] at hd
   match ds,hd with
   | [d1,d2],_=>exact ⟨rfl,rfl,rfl⟩)
  j4u (fun W hsh h=>jnr hsh h)
theorem qsv:Rows.TopCoilCrashesSaid:=
 OpenClaim.holds_of_wide 3 Tryz.f3 rfl rfl rfl rfl rfl rfl rfl ⟨rfl,rfl,rfl,rfl,rfl⟩ rfl rfl rfl rfl rfl c3_named2 Tryz.func3 jgj jpq jni
  (fun os started H enc _=>q8u os started H enc)
theorem topCoilCrashes_holds:Rows.TopCoilCrashesCardSaid:=
 Claim7.holds_tied_plain_at .later [] [.data, .data, .data, .data, .pinned] true (true, "dfa8ae539e78c4fb14fcf0ba18d2bdbfe3fb8d47874de69a7cb941a8488a4277") false
  qsv (fun _ h=>by cases h) jhc (fun _ h=>by cases h) topCoilCrashes_row_tie rfl ⟨rfl,rfl⟩ jsf rfl
  (fun f fn hf hfn=>by
   obtain rfl:f=3:=Option.some.inj (c3_named2.symm.trans hf) |>.symm
   obtain rfl:fn=Tryz.f3:=(Option.some.inj (Tryz.func3.symm.trans hfn)).symm
   exact ⟨jov,fun j t ht=>by
    rw [Tryz.params3] at ht
    have hm:t∈[22,23]:=by simpa using Array.mem_of_getElem? ht
    have hall:([22,23].all fun u=>!Tryz.prog.wantsStandIn u)=true:=by kernel_rfl
    exact (show Tryz.prog.wantsStandIn t=false by simpa using List.all_eq_true.1 hall t hm)⟩)
  jqp
end Go.Proofs.YtoaianfagfampaaGreatDoor
