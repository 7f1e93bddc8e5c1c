/-
  WorksSessions returns true for every input, and each argument reads afterwards as it read before (the statement Rows.WorksSessionsSaid). No conditions.
-/
import Derived.Test.YtlhfdilpecnjeaaGreatDoorTL
import Derived.Test.YtlhfdilpecnjeaaGreatDoorPC
set_option linter.all false
set_option maxRecDepth 100000
namespace Go.Z
open Go Go.Abs Go.Proofs
theorem jc1 {α:Type} {f:α→AVal}:∀ {xs:List AVal},(∀ y∈xs,∃ a,y=f a)→∃ l:List α,xs=l.map f
 | [],_=>⟨[],rfl⟩
 | y::xs,h=>by
  obtain ⟨a,rfl⟩:=h y (List.mem_cons_self ..)
  obtain ⟨l,rfl⟩:=jc1 (f:=f) (fun z hz=>h z (List.mem_cons_of_mem _ hz))
  exact ⟨a::l,rfl⟩
theorem rt9 {n:Nat} {cs:List AVal} (h:qbd Tryz.prog (n + 1) 9 cs):∃ (x0:List UInt8),cs=[.str x0]:=by
 simp only [qbd,Tryz.underlying9] at h
 obtain ⟨x,h,-⟩:=h
 exact ⟨x,h⟩
theorem tA9:qkq Tryz.prog 9=false:=by kernel_rfl
theorem tC9:Tryz.prog.cellsOf 9=1:=by kernel_rfl
theorem ze1 {n:Nat} {cs:List AVal} (h:qbd Tryz.prog (n + 2) 22 cs):∃ (x0:Option (List (List UInt8))),cs=[sl 1 qx x0]:=by
 rw [qbd] at h
 simp only [Tryz.underlying22] at h
 rcases h with h | ⟨xs,h,-,hx⟩
 ·exact ⟨none,h⟩
 ·obtain ⟨l,rfl⟩:=jc1 (f:=qx) (fun y hy=>by
   obtain ⟨h1,h2⟩:=hx y hy
   rw [tA9] at h2
   obtain ⟨y0,hm⟩:=rt9 h1
   rw [qcc h2] at hm
   exact ⟨y0,(List.cons.inj hm).1⟩)
  exact ⟨some l,by rw [h,tC9]; rfl⟩
theorem zee:qkq Tryz.prog 22=false:=by kernel_rfl
theorem zki (xs:List AVal) (h:qqb Tryz.prog 4 Tryz.f3.params.toList xs):IsoCall Tryz.prog 3 xs (.bool true) false:=by
 rw [Tryz.params3] at h
 obtain ⟨y0,ys0,rfl,h0,h⟩:=h
 obtain ⟨y1,ys1,rfl,h1,h⟩:=h
 rw [show ys1=[] from h]
 obtain ⟨g0,k0⟩:=h0
 rw [tA9] at k0
 obtain ⟨p0_0,e0⟩:=rt9 g0
 rw [qcc k0] at e0
 obtain rfl:y0=.str p0_0:=(List.cons.inj e0).1
 obtain ⟨g1,k1⟩:=h1
 rw [zee] at k1
 obtain ⟨p1_0,e1⟩:=ze1 g1
 rw [qcc k1] at e1
 obtain rfl:y1=sl 1 qx p1_0:=(List.cons.inj e1).1
 exact q7f okS (I3 p0_0 p1_0) (by simp only [go_sem,seval])
end Go.Z
namespace Go.Proofs.YtlhfdilpecnjeaaGreatDoor
open Go Go.Abs Go.Z Go.RowKit
theorem jsz {W:World} (hsh:W.ShapedOpen Tryz.prog) (h:laidMetH Tryz.prog Rows.worksSessionsRow.laid W):Tabs Tryz.prog W:=by
 rw [MakeChecks.laidMetH_plain _ _ _ (by kernel_rfl)] at h
 exact jst (List.mem_of_getElem? (i:=2) (by kernel_rfl)) hsh h
theorem jby (os:Os) (started:os.Started) (H:Type) (enc:TypeId × Value→H):
  ReturnsInHanded {} Tryz.checked os 3 .any (fun w args=>(Rows.worksSessionsSpec.pre enc Tryz.prog Tryz.f3 Rows.worksSessionsRow.domain false w args∧laidMetH Tryz.prog Rows.worksSessionsRow.laid w)∧sizedMet enc Tryz.prog Tryz.f3 (OpenSpec.ofChange Rows.worksSessionsSpec) false w args) (Rows.worksSessionsSpec.post enc Tryz.prog Tryz.f3 false true false false):=
 qzt (C:=Tryz.checked) (laid:=Rows.worksSessionsRow.laid) 4 4 (fun _ _ hh h=>h.of_heap hh) j6m started (by kernel_rfl) Tryz.func3
  (ChangeSpec.witness_shaped (enc:=enc) (C:=Tryz.checked) (os:=os) (X:=fun w _=>laidMetH Tryz.prog Rows.worksSessionsRow.laid w) false (World.laidAll Tryz.prog os Rows.worksSessionsRow.laid) #[.string ⟨#[]⟩,.slice none 0 0] 8 (World.laidAll_os _ _ _)
   (World.shaped_of_ZipB (by kernel_rfl) (by kernel_rfl)) (by kernel_rfl) (by kernel_rfl) (by kernel_rfl)
   (by rw [MakeChecks.laidMetH_plain _ _ _ (by kernel_rfl)]; exact laidMet_laidAll _ (by kernel_rfl) (by kernel_rfl)))
  rfl rfl Tryz.underlying4 jjy (by kernel_rfl) (by kernel_rfl)
  (fun ds hd=>by
   rw [Tryz.params3] at hd
   match ds,hd with
   | [d1,d2],_=>exact ⟨rfl,rfl,rfl⟩)
  zki (fun W hsh h=>jsz hsh h)
theorem qwu:Rows.WorksSessionsSaid:=
 OpenClaim.holds_of_wide 3 Tryz.f3 rfl rfl rfl rfl rfl rfl rfl ⟨rfl,rfl,rfl,rfl,rfl⟩ rfl rfl rfl rfl rfl c3_named2 Tryz.func3 jh0 jv0 jvd
  (fun os started H enc _=>jby os started H enc)
theorem worksSessions_holds:Rows.WorksSessionsCardSaid:=
 Claim7.holds_tied_plain_at .later [] [.data, .data, .data, .data, .pinned] true (true, "6ebe9f5257bc28bbdf1043ac69240590c05c4215ff9701c5d64b0de29936156d") false
  qwu (fun _ h=>by cases h) jj8 (fun _ h=>by cases h) worksSessions_row_tie rfl ⟨rfl,rfl⟩ jxt rfl
  (fun f fn hf hfn=>by
   obtain rfl:f=3:=Option.some.inj (c3_named2.symm.trans hf) |>.symm
   obtain rfl:fn=Tryz.f3:=(Option.some.inj (Tryz.func3.symm.trans hfn)).symm
   exact ⟨ju2,fun j t ht=>by
    rw [Tryz.params3] at ht
    have hm:t∈[9,22]:=by simpa using Array.mem_of_getElem? ht
    have hall:([9,22].all fun u=>!Tryz.prog.wantsStandIn u)=true:=by kernel_rfl
    exact (show Tryz.prog.wantsStandIn t=false by simpa using List.all_eq_true.1 hall t hm)⟩)
  jt9
end Go.Proofs.YtlhfdilpecnjeaaGreatDoor
