/-
  WorksRecalled returns true for every input, and each argument reads afterwards as it read before (the statement Rows.WorksRecalledSaid). No conditions.
-/
import Derived.Test.YtimdocpnkimlfaaGreatDoorTL5
import Derived.Test.YtimdocpnkimlfaaGreatDoorPC5
set_option linter.unusedVariables false
set_option linter.unusedSimpArgs false
set_option maxRecDepth 100000
namespace Go.Z
open Go Go.Abs Go.Proofs
theorem qsb {α:Type} {f:α→AVal} {Q:α→Prop}:∀ {xs:List AVal},(∀ y∈xs,∃ a,y=f a∧Q a)→∃ l:List α,xs=l.map f∧∀ a∈l,Q a
 | [],_=>⟨[],rfl,by simp⟩
 | y::xs,h=>by
  obtain ⟨a,ha,hq⟩:=h y (List.mem_cons_self ..)
  obtain ⟨l,hl,hr⟩:=qsb (f:=f) (Q:=Q) (fun z hz=>h z (List.mem_cons_of_mem _ hz))
  exact ⟨a::l,by rw [ha,hl]; rfl,fun b hb=>by
   rcases List.mem_cons.1 hb with rfl | hb
   ·exact hq
   ·exact hr b hb⟩
def wf3 (x0:Int):Prop:=(Lit.int .i64 x0).wf=true
def wf9 (x0:List UInt8):Prop:=x0.length≤maxLen
def jk8 (x0:Option (List (List UInt8))):Prop:=(x0.getD []).length≤maxLen∧∀ y∈x0.getD [],wf9 y
def jhg (x0:Option (List Int)):Prop:=(x0.getD []).length≤maxLen∧∀ y∈x0.getD [],wf3 y
def jkb (x0:Int) (x1:List UInt8) (x2:Option (List (List UInt8))) (x3:Option (List Int)) (x4:List UInt8):Prop:=wf3 x0∧wf9 x1∧jk8 x2∧jhg x3∧wf9 x4
def jx6 (x0:Option (List GEv)):Prop:=(x0.getD []).length≤maxLen∧∀ y∈x0.getD [],jkb y.number y.kind y.names y.values y.text
theorem rt3 {n:Nat} {cs:List AVal} (h:yj Tryz.prog (n + 1) 3 cs):∃ (x0:Int),cs=[.int .i64 x0]∧wf3 x0:=by
 simp only [yj,Tryz.underlying3] at h
 exact h
theorem rt9 {n:Nat} {cs:List AVal} (h:yj Tryz.prog (n + 1) 9 cs):∃ (x0:List UInt8),cs=[.str x0]∧wf9 x0:=by
 simp only [yj,Tryz.underlying9] at h
 exact h
theorem tA9:qf1 Tryz.prog 9=false:=by kernel_rfl
theorem tC9:Tryz.prog.cellsOf 9=1:=by kernel_rfl
theorem zhv {n:Nat} {cs:List AVal} (h:yj Tryz.prog (n + 2) 23 cs):∃ (x0:Option (List (List UInt8))),cs=[sl 1 jd x0]∧jk8 x0:=by
 rw [yj] at h
 simp only [Tryz.underlying23] at h
 rcases h with h | ⟨xs,h,hln,hx⟩
 ·exact ⟨none,h,by simp [jk8]⟩
 ·obtain ⟨l,hl,hq⟩:=qsb (f:=jd) (Q:=fun y=>wf9 y) (xs:=xs) (fun y hy=>by
   obtain ⟨h1,h2⟩:=hx y hy
   rw [tA9] at h2
   obtain ⟨y0,hm,hq⟩:=rt9 h1
   rw [qby h2] at hm
   exact ⟨y0,(List.cons.inj hm).1,hq⟩)
  exact ⟨some l,by rw [h,hl,tC9]; rfl,by rw [hl,List.length_map] at hln; exact ⟨hln,hq⟩⟩
theorem tA3:qf1 Tryz.prog 3=false:=by kernel_rfl
theorem tC3:Tryz.prog.cellsOf 3=1:=by kernel_rfl
theorem zb4 {n:Nat} {cs:List AVal} (h:yj Tryz.prog (n + 2) 24 cs):∃ (x0:Option (List Int)),cs=[sl 1 zw x0]∧jhg x0:=by
 rw [yj] at h
 simp only [Tryz.underlying24] at h
 rcases h with h | ⟨xs,h,hln,hx⟩
 ·exact ⟨none,h,by simp [jhg]⟩
 ·obtain ⟨l,hl,hq⟩:=qsb (f:=zw) (Q:=fun y=>wf3 y) (xs:=xs) (fun y hy=>by
   obtain ⟨h1,h2⟩:=hx y hy
   rw [tA3] at h2
   obtain ⟨y0,hm,hq⟩:=rt3 h1
   rw [qby h2] at hm
   exact ⟨y0,(List.cons.inj hm).1,hq⟩)
  exact ⟨some l,by rw [h,hl,tC3]; rfl,by rw [hl,List.length_map] at hln; exact ⟨hln,hq⟩⟩
theorem zkm {n:Nat} {cs:List AVal} (h:yj Tryz.prog (n + 3) 26 cs):∃ (x0:Int) (x1:List UInt8) (x2:Option (List (List UInt8))) (x3:Option (List Int)) (x4:List UInt8),cs=[.int .i64 x0,.str x1,sl 1 jd x2,sl 1 zw x3,.str x4]∧jkb x0 x1 x2 x3 x4:=by
 rw [yj] at h
 simp only [Tryz.underlying26] at h
 obtain ⟨ys0,zs0,rfl,g0,k0⟩:=h
 obtain ⟨x0,rfl,w0⟩:=rt3 g0
 obtain ⟨ys1,zs1,rfl,g1,k1⟩:=k0
 obtain ⟨x1,rfl,w1⟩:=rt9 g1
 obtain ⟨ys2,zs2,rfl,g2,k2⟩:=k1
 obtain ⟨x2,rfl,w2⟩:=zhv g2
 obtain ⟨ys3,zs3,rfl,g3,k3⟩:=k2
 obtain ⟨x3,rfl,w3⟩:=zb4 g3
 obtain ⟨ys4,zs4,rfl,g4,k4⟩:=k3
 obtain ⟨x4,rfl,w4⟩:=rt9 g4
 rw [show zs4=[] from k4]
 exact ⟨x0,x1,x2,x3,x4,rfl,w0,w1,w2,w3,w4⟩
theorem zi6:qf1 Tryz.prog 26=true:=by kernel_rfl
theorem zh2:Tryz.prog.cellsOf 26=5:=by kernel_rfl
theorem zhp {n:Nat} {cs:List AVal} (h:yj Tryz.prog (n + 4) 22 cs):∃ (x0:Option (List GEv)),cs=[sl 5 vev x0]∧jx6 x0:=by
 rw [yj] at h
 simp only [Tryz.underlying22] at h
 rcases h with h | ⟨xs,h,hln,hx⟩
 ·exact ⟨none,h,by simp [jx6]⟩
 ·obtain ⟨l,hl,hq⟩:=qsb (f:=vev) (Q:=fun y=>jkb y.number y.kind y.names y.values y.text) (xs:=xs) (fun y hy=>by
   obtain ⟨h1,h2⟩:=hx y hy
   rw [zi6] at h2
   obtain ⟨y0,y1,y2,y3,y4,hm,hq⟩:=zkm h1
   exact ⟨⟨y0,y1,y2,y3,y4⟩,by rw [q6h h2,hm]; rfl,hq⟩)
  exact ⟨some l,by rw [h,hl,zh2]; rfl,by rw [hl,List.length_map] at hln; exact ⟨hln,hq⟩⟩
def wf5 (x0:Int):Prop:=(Lit.int .u8 x0).wf=true
def zgb (x0:Int) (x1:Int):Prop:=wf5 x0∧wf5 x1
theorem rt5 {n:Nat} {cs:List AVal} (h:yj Tryz.prog (n + 1) 5 cs):∃ (x0:Int),cs=[.int .u8 x0]∧wf5 x0:=by
 simp only [yj,Tryz.underlying5] at h
 exact h
theorem zgr {n:Nat} {cs:List AVal} (h:yj Tryz.prog (n + 2) 63 cs):∃ (x0:Int) (x1:Int),cs=[.int .u8 x0,.int .u8 x1]∧zgb x0 x1:=by
 rw [yj] at h
 simp only [Tryz.underlying63] at h
 obtain ⟨ys0,zs0,rfl,g0,k0⟩:=h
 obtain ⟨x0,rfl,w0⟩:=rt5 g0
 obtain ⟨ys1,zs1,rfl,g1,k1⟩:=k0
 obtain ⟨x1,rfl,w1⟩:=rt5 g1
 rw [show zs1=[] from k1]
 exact ⟨x0,x1,rfl,w0,w1⟩
theorem zhr:qf1 Tryz.prog 22=false:=by kernel_rfl
theorem zcz:qf1 Tryz.prog 63=true:=by kernel_rfl
theorem zjw (xs:List AVal) (h:qoj Tryz.prog 6 Tryz.f5.params.toList xs):IsoCall Tryz.prog 5 xs (.bool true) false:=by
 rw [Tryz.params5] at h
 obtain ⟨y0,ys0,rfl,h0,h⟩:=h
 obtain ⟨y1,ys1,rfl,h1,h⟩:=h
 rw [show ys1=[] from h]
 obtain ⟨g0,k0⟩:=h0
 rw [zhr] at k0
 obtain ⟨p0_0,e0,q0⟩:=zhp g0
 rw [qby k0] at e0
 obtain rfl:y0=sl 5 vev p0_0:=(List.cons.inj e0).1
 obtain ⟨g1,k1⟩:=h1
 rw [zcz] at k1
 obtain ⟨p1_0,p1_1,e1,q1⟩:=zgr g1
 rw [q6h k1,e1]
 exact q1y okZ (I5 p0_0 ⟨p1_0,p1_1⟩ (jnm q1.1) (jnm q1.2)) (by simp only [go_sem,seval])
end Go.Z
namespace Go.Proofs.YtimdocpnkimlfaaGreatDoor
open Go Go.Abs Go.Z Go.RowKit
theorem jnx {W:World} (hsh:W.ShapedOpen Tryz.prog) (h:laidMetH Tryz.prog Rows.worksRecalledRow.laid W):Tabs Tryz.prog W:=by
 rw [MakeChecks.laidMetH_plain _ _ _ (by kernel_rfl)] at h
 exact jq8 (List.mem_of_getElem? (i:=2) (by kernel_rfl)) hsh h
theorem q64 (os:Os) (started:os.Started) (H:Type) (enc:TypeId × Value→H):
  ReturnsInHanded {} Tryz.checked os 5 .any (fun w args=>(Rows.worksRecalledSpec.pre enc Tryz.prog Tryz.f5 Rows.worksRecalledRow.domain false w args∧laidMetH Tryz.prog Rows.worksRecalledRow.laid w)∧sizedMet enc Tryz.prog Tryz.f5 (OpenSpec.ofChange Rows.worksRecalledSpec) false w args) (Rows.worksRecalledSpec.post enc Tryz.prog Tryz.f5 false true false false):=
 qvg (C:=Tryz.checked) (laid:=Rows.worksRecalledRow.laid) 6 4 (fun _ _ hh h=>h.of_heap hh) j17 started (by kernel_rfl) Tryz.func5
  (ChangeSpec.witness_shaped (enc:=enc) (C:=Tryz.checked) (os:=os) (X:=fun w _=>laidMetH Tryz.prog Rows.worksRecalledRow.laid w) false (World.laidAll Tryz.prog os Rows.worksRecalledRow.laid) #[.slice none 0 0,.agg #[.int .u8 0,.int .u8 0]] 8 (World.laidAll_os _ _ _)
   (World.shaped_of_ZipB (by kernel_rfl) (by kernel_rfl)) (by kernel_rfl) (by kernel_rfl) (by kernel_rfl)
   (by rw [MakeChecks.laidMetH_plain _ _ _ (by kernel_rfl)]; exact laidMet_laidAll _ (by kernel_rfl) (by kernel_rfl)))
  rfl rfl Tryz.underlying4 jdo (by kernel_rfl) (by kernel_rfl)
  (fun ds hd=>by
   rw [Tryz.params5] at hd
   match ds,hd with
   | [d1,d2],_=>exact ⟨rfl,rfl,rfl⟩)
  zjw (fun W hsh h=>jnx hsh h)
theorem qsw:Rows.WorksRecalledSaid:=
 OpenClaim.holds_of_wide 5 Tryz.f5 rfl rfl rfl rfl rfl rfl rfl ⟨rfl,rfl,rfl,rfl,rfl⟩ rfl rfl rfl rfl rfl c5_named2 Tryz.func5 je5 jpx jpo
  (fun os started H enc _=>q64 os started H enc)
theorem worksRecalled_holds:Rows.WorksRecalledCardSaid:=
 Claim7.holds_tied_plain_at .later [] [.data, .data, .data, .data, .pinned] true (true, "1bd47a6b7e681e5c8bd85b252bc129e10370a18833b6d87933be64800e006a4c") false
  qsw (fun _ h=>by cases h) jfd (fun _ h=>by cases h) worksRecalled_row_tie rfl ⟨rfl,rfl⟩ jyg rfl
  (fun f fn hf hfn=>by
   obtain rfl:f=5:=Option.some.inj (c5_named2.symm.trans hf) |>.symm
   obtain rfl:fn=Tryz.f5:=(Option.some.inj (Tryz.func5.symm.trans hfn)).symm
   exact ⟨jp4,fun j t ht=>by
    rw [Tryz.params5] at ht
    have hm:t∈[22,63]:=by simpa using Array.mem_of_getElem? ht
    have hall:([22,63].all fun u=>!Tryz.prog.wantsStandIn u)=true:=by kernel_rfl
    exact (show Tryz.prog.wantsStandIn t=false by simpa using List.all_eq_true.1 hall t hm)⟩)
  jqi
end Go.Proofs.YtimdocpnkimlfaaGreatDoor
