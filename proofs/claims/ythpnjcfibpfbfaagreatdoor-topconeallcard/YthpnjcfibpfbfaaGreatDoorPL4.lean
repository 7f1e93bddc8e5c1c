/-
  TopConeAll returns true for every input, and each argument reads afterwards as it read before (the statement Rows.TopConeAllSaid). No conditions.
-/
import Derived.Test.YthpnjcfibpfbfaaGreatDoorTC
import Derived.Test.YthpnjcfibpfbfaaGreatDoorPC4
set_option linter.unusedVariables false
set_option linter.unusedSimpArgs false
set_option maxRecDepth 100000
namespace Go.Z
open Go Go.Abs Go.Proofs
def wf5 (x0:Int):Prop:=(Lit.int .u8 x0).wf=true
theorem rt5 {n:Nat} {cs:List AVal} (h:yt Tryz.prog (n + 1) 5 cs):∃ (x0:Int),cs=[.int .u8 x0]∧wf5 x0:=by
 simp only [yt,Tryz.underlying5] at h
 exact h
theorem tA5:qer Tryz.prog 5=false:=by kernel_rfl
theorem jdk (xs:List AVal) (h:qg1 Tryz.prog 3 Tryz.f4.params.toList xs):IsoCall Tryz.prog 4 xs (.bool true) false:=by
 rw [Tryz.params4] at h
 obtain ⟨y0,ys0,rfl,h0,h⟩:=h
 obtain ⟨y1,ys1,rfl,h1,h⟩:=h
 obtain ⟨y2,ys2,rfl,h2,h⟩:=h
 rw [show ys2=[] from h]
 obtain ⟨g0,k0⟩:=h0
 rw [tA5] at k0
 obtain ⟨p0_0,e0,q0⟩:=rt5 g0
 rw [kj k0] at e0
 obtain rfl:y0=.int .u8 p0_0:=(List.cons.inj e0).1
 obtain ⟨g1,k1⟩:=h1
 rw [tA5] at k1
 obtain ⟨p1_0,e1,q1⟩:=rt5 g1
 rw [kj k1] at e1
 obtain rfl:y1=.int .u8 p1_0:=(List.cons.inj e1).1
 obtain ⟨g2,k2⟩:=h2
 rw [tA5] at k2
 obtain ⟨p2_0,e2,q2⟩:=rt5 g2
 rw [kj k2] at e2
 obtain rfl:y2=.int .u8 p2_0:=(List.cons.inj e2).1
 exact qnp okZ (I4 p0_0 p1_0 p2_0 (qr7 q0) (qr7 q1) (qr7 q2)) (by simp only [go_sem,seval])
end Go.Z
namespace Go.Proofs.YthpnjcfibpfbfaaGreatDoor
open Go Go.Abs Go.Z Go.RowKit
theorem qxu {W:World} (hsh:W.ShapedOpen Tryz.prog) (h:laidMetH Tryz.prog Rows.topConeAllRow.laid W):Tabs Tryz.prog W:=by
 rw [MakeChecks.laidMetH_plain _ _ _ (by kernel_rfl)] at h
 exact qx5 (List.mem_of_getElem? (i:=2) (by kernel_rfl)) (List.mem_of_getElem? (i:=3) (by kernel_rfl)) (List.mem_of_getElem? (i:=4) (by kernel_rfl)) hsh h
theorem qp2 (os:Os) (started:os.Started) (H:Type) (enc:TypeId × Value→H):
  ReturnsInHanded {} Tryz.checked os 4 .any (fun w args=>(Rows.topConeAllSpec.pre enc Tryz.prog Tryz.f4 Rows.topConeAllRow.domain false w args∧laidMetH Tryz.prog Rows.topConeAllRow.laid w)∧sizedMet enc Tryz.prog Tryz.f4 (OpenSpec.ofChange Rows.topConeAllSpec) false w args) (Rows.topConeAllSpec.post enc Tryz.prog Tryz.f4 false true false false):=
 qk1 (C:=Tryz.checked) (laid:=Rows.topConeAllRow.laid) 3 4 (fun _ _ hh h=>h.of_heap hh) q6x started (by kernel_rfl) Tryz.func4
  (ChangeSpec.witness_shaped (enc:=enc) (C:=Tryz.checked) (os:=os) (X:=fun w _=>laidMetH Tryz.prog Rows.topConeAllRow.laid w) false (World.laidAll Tryz.prog os Rows.topConeAllRow.laid) #[.int .u8 0,.int .u8 0,.int .u8 0] 8 (World.laidAll_os _ _ _)
   (World.shaped_of_ZipB (by kernel_rfl) (by kernel_rfl)) (by kernel_rfl) (by kernel_rfl) (by kernel_rfl)
   (by rw [MakeChecks.laidMetH_plain _ _ _ (by kernel_rfl)]; exact laidMet_laidAll _ (by kernel_rfl) (by kernel_rfl)))
  rfl rfl Tryz.underlying4 qt1 (by kernel_rfl) (by kernel_rfl)
  (fun ds hd=>by
   rw [Tryz.params4] at hd
   match ds,hd with
   | [d1,d2,d3],_=>exact ⟨rfl,rfl,rfl⟩)
  jdk (fun W hsh h=>qxu hsh h)
theorem qld:Rows.TopConeAllSaid:=
 OpenClaim.holds_of_wide 4 Tryz.f4 rfl rfl rfl rfl rfl rfl rfl ⟨rfl,rfl,rfl,rfl,rfl⟩ rfl rfl rfl rfl rfl c4_named2 Tryz.func4 qt3 qyk qxp
  (fun os started H enc _=>qp2 os started H enc)
theorem topConeAll_holds:Rows.TopConeAllCardSaid:=
 Claim7.holds_tied_plain_at .later [] [.data, .data, .data, .data, .data] true (true, "f2c8580cf2dad7b7ddf975e494f2653d3ebb0c81b81f9da25baac4d43574b4c9") false
  qld (fun _ h=>by cases h) qtq (fun _ h=>by cases h) topConeAll_row_tie rfl ⟨rfl,rfl⟩ q0l rfl
  (fun f fn hf hfn=>by
   obtain rfl:f=4:=Option.some.inj (c4_named2.symm.trans hf) |>.symm
   obtain rfl:fn=Tryz.f4:=(Option.some.inj (Tryz.func4.symm.trans hfn)).symm
   exact ⟨qyh,fun j t ht=>by
    rw [Tryz.params4] at ht
    have hm:t∈[5]:=by simpa using Array.mem_of_getElem? ht
    have hall:([5].all fun u=>!Tryz.prog.wantsStandIn u)=true:=by kernel_rfl
    exact (show Tryz.prog.wantsStandIn t=false by simpa using List.all_eq_true.1 hall t hm)⟩)
  qyt
end Go.Proofs.YthpnjcfibpfbfaaGreatDoor
