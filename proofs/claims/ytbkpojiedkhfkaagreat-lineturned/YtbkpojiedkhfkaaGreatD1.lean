/-
  Draw: its run; the list that grows is thawed before it is written (the loops are printed by walk.py).
-/
import Derived.Test.YtbkpojiedkhfkaaGreatG0s
import Derived.Test.YtbkpojiedkhfkaaGreatLG
set_option linter.unusedVariables false
set_option linter.unusedSimpArgs false
set_option maxRecDepth 100000
set_option maxHeartbeats 4000000
namespace Go.Z
open Go Go.Abs Go.Proofs
noncomputable def s55_0 (a0:Int) (a1:Int) (s0:(Option (List Int)) × Int × Bool):Option (((Option (List Int)) × Int × Bool) ⊕ (((Option (List Int)) × Bool × Int))):=
 cond (decide (s0.2.1 < a1))
  (cond s0.2.2
   (obind (apO s0.1 [s0.2.1]) fun v11=>
   some (.inl (v11,wrapF .i64 (s0.2.1 + 1),true)))
   (cond s0.1.isNone
    (obind (apO s0.1 [s0.2.1]) fun v14=>
    some (.inl (v14,wrapF .i64 (s0.2.1 + 1),true)))
    (none)))
  (some (.inr (s0.1,s0.2.2,s0.2.1)))
def St55_0 (a0:Int) (a1:Int) (s0:(Option (List Int)) × Int × Bool):ASt:=⟨[(0,.int .i64 a0,false),(1,.int .i64 a1,false),(5,sl 1 vint s0.1,s0.2.2),(6,.int .i64 s0.2.1,false)],[]⟩
def Ex55_0 (a0:Int) (a1:Int) (d:((Option (List Int)) × Bool × Int)):AExit × ASt:=(.exit 0,⟨[(0,.int .i64 a0,false),(1,.int .i64 a1,false),(5,sl 1 vint d.1,d.2.1),(6,.int .i64 d.2.2,false),(12,.bool false,false)],[]⟩)
theorem b55_0 (a0:Int) (a1:Int) (s0:(Option (List Int)) × Int × Bool) (r) (h:s55_0 a0 a1 s0=some r):stepO pr c55_0 (St55_0 a0 a1) (Ex55_0 a0 a1) s0 r:=by
 unfold s55_0 at h
 rcases cond_split h with ⟨h9,h⟩ | ⟨h9,h⟩
 ·rcases cond_split h with ⟨h10,h⟩ | ⟨h10,h⟩
  ·obtain ⟨v11,h12,h⟩:=obind_some h
   cases h
   exact stepO_in (st':=⟨[(0,.int .i64 a0,false),(1,.int .i64 a1,false),(5,sl 1 vint v11,true),(6,.int .i64 (wrapF .i64 (s0.2.1 + 1)),false)],[]⟩) (by simp only [go_sem,seval,c55_0,St55_0,h9,h10,app_vint_O h12] <;> rfl) (gc_same (Nat.le_refl _))
  ·rcases cond_split h with ⟨h13,h⟩ | ⟨h13,h⟩
   ·obtain ⟨v14,h15,h⟩:=obind_some h
    cases h
    exact stepO_in (st':=⟨[(0,.int .i64 a0,false),(1,.int .i64 a1,false),(5,sl 1 vint v14,true),(6,.int .i64 (wrapF .i64 (s0.2.1 + 1)),false)],[]⟩) (by simp only [go_sem,seval,c55_0,St55_0,h9,h10,h13,app_vint_N h15 h13] <;> rfl) (gc_same (Nat.le_refl _))
   ·cases h
 ·cases h
  exact stepO_out (by simp only [go_sem,seval,c55_0,St55_0,h9,Ex55_0] <;> rfl)
theorem l55_0 (a0:Int) (a1:Int) {s0:(Option (List Int)) × Int × Bool} {d} (h:itO (s55_0 a0 a1) s0=some d):X pr (.loop c55_0) (St55_0 a0 a1 s0)=some (Ex55_0 a0 a1 d):=X_itO (b55_0 a0 a1) (fun d hh=>by cases hh) h
noncomputable def s55_0b (n2:Nat) (s0:Int × Int × (List Int)):Option ((Int × Int × (List Int)) ⊕ ((Int × Int × (List Int)))):=
 cond (decide (0 < s0.2.1))
  (obind (remO (wrapF .i64 (630360016 * s0.1)) 2147483647) fun v24=>
  obind (remO v24 (wrapF .i64 (s0.2.1 + 1))) fun v26=>
  obind (idxM n2 s0.2.2 v26) fun v28=>
  obind (idxM n2 s0.2.2 s0.2.1) fun v30=>
  obind (idxM n2 (s0.2.2.set s0.2.1.toNat v28) v26) fun v32=>
  some (.inl (v24,wrapF .i64 (s0.2.1 - 1),(s0.2.2.set s0.2.1.toNat v28).set v26.toNat v30)))
  (some (.inr (s0.1,s0.2.1,s0.2.2)))
def St55_0b (n2:Nat) (s0:Int × Int × (List Int)):ASt:=⟨[(5,.ms 0 0 n2,false),(7,.int .i64 s0.1,false),(8,.int .i64 s0.2.1,false)],[.cells (icl s0.2.2)]⟩
def Ex55_0b (n2:Nat) (d:(Int × Int × (List Int))):AExit × ASt:=(.exit 2,⟨[(5,.ms 0 0 n2,false),(7,.int .i64 d.1,false),(8,.int .i64 d.2.1,false),(23,.bool false,false)],[.cells (icl d.2.2)]⟩)
theorem b55_0b (n2:Nat) (s0:Int × Int × (List Int)) (r) (h:s55_0b n2 s0=some r):stepO pr c55_1 (St55_0b n2) (Ex55_0b n2) s0 r:=by
 unfold s55_0b at h
 rcases cond_split h with ⟨h23,h⟩ | ⟨h23,h⟩
 ·obtain ⟨v24,h25,h⟩:=obind_some h
  obtain ⟨v26,h27,h⟩:=obind_some h
  obtain ⟨v28,h29,h⟩:=obind_some h
  obtain ⟨v30,h31,h⟩:=obind_some h
  obtain ⟨v32,h33,h⟩:=obind_some h
  cases h
  exact stepO_in (st':=⟨[(5,.ms 0 0 n2,false),(7,.int .i64 v24,false),(8,.int .i64 (wrapF .i64 (s0.2.1 - 1)),false)],[.cells (icl ((s0.2.2.set s0.2.1.toNat v28).set v26.toNat v30))]⟩) (by simp only [go_sem,seval,c55_1,St55_0b,h23,b_rem_O h25,b_rem_O h27,idx_ms_O h29,ld_ms_O h29,st_ms_O h29,idx_ms_O h31,ld_ms_O h31,st_ms_O h31,idx_ms_O h33,ld_ms_O h33,st_ms_O h33] <;> rfl) (gc_same (Nat.le_refl _))
 ·cases h
  exact stepO_out (by simp only [go_sem,seval,c55_1,St55_0b,h23,Ex55_0b] <;> rfl)
theorem l55_0b (n2:Nat) {s0:Int × Int × (List Int)} {d} (h:itO (s55_0b n2) s0=some d):X pr (.loop c55_1) (St55_0b n2 s0)=some (Ex55_0b n2 d):=X_itO (b55_0b n2) (fun d hh=>by cases hh) h
def seqL:ACode→ACode
 | .seq a _=>a
 | x=>x
def seqR:ACode→ACode
 | .seq _ b=>b
 | x=>x
def g55:GCode:=.seq (.code (seqL c55.body)) (.seq (.code (seqL (seqR c55.body))) (.seq (.code (seqL (seqR (seqR c55.body)))) (.thaw 5 (.code (seqR (seqR (seqR c55.body)))))))
noncomputable def f55 (a0 a1:Int):Option (List Int):=
 obind (itO (s55_0 a0 a1) (none,0,false)) fun d16=>match d16.1,d16.2.1 with
  | some l,true=>obind (itO (s55_0b l.length) (a0,wrapF .i64 (a1 - 1),l)) fun d34=>takeM l.length d34.2.2
  | _,_=>none
theorem W55 {a0 a1:Int} {r:List Int} (h:f55 a0 a1=some r):IsoCall Tryz.prog 55 [.int .i64 a0,.int .i64 a1] (sl 1 vint (some r)) false:=by
 unfold f55 at h
 obtain ⟨d16,h17,h⟩:=obind_some h
 obtain ⟨o,ow,i⟩:=d16
 cases o with
 | none=>cases h
 | some l=>
  cases ow with
  | false=>cases h
  | true=>
  simp only [] at h
  obtain ⟨d34,h35,h⟩:=obind_some h
  have wh17:X pr (.loop c55_0) ⟨[(0,.int .i64 a0,false),(1,.int .i64 a1,false),(5,.list true 0 [],false),(6,.int .i64 0,false)],[]⟩=some (.exit 0,⟨[(0,.int .i64 a0,false),(1,.int .i64 a1,false),(5,sl 1 vint (some l),true),(6,.int .i64 i,false),(12,.bool false,false)],[]⟩):=l55_0 a0 a1 h17
  have wh35:X pr (.loop c55_1) ⟨[(5,.ms 0 0 l.length,false),(7,.int .i64 a0,false),(8,.int .i64 (wrapF .i64 (a1 - 1)),false)],[.cells (icl l)]⟩=some (.exit 2,⟨[(5,.ms 0 0 l.length,false),(7,.int .i64 d34.1,false),(8,.int .i64 d34.2.1,false),(23,.bool false,false)],[.cells (icl d34.2.2)]⟩):=l55_0b l.length h35
  have h1:X pr (seqL c55.body) ⟨argEnv 0 [.int .i64 a0,.int .i64 a1],[]⟩=some (.normal,⟨[(0,.int .i64 a0,false),(1,.int .i64 a1,false)],[]⟩):=by simp only [go_sem,seval,c55,seqL] <;> rfl
  have h2:X pr (seqL (seqR c55.body)) ⟨[(0,.int .i64 a0,false),(1,.int .i64 a1,false)],[]⟩=some (.normal,⟨[(0,.int .i64 a0,false),(1,.int .i64 a1,false),(5,.list true 0 [],false)],[]⟩):=by simp only [go_sem,seval,c55,seqL,seqR] <;> rfl
  have h3:X pr (seqL (seqR (seqR c55.body))) ⟨[(0,.int .i64 a0,false),(1,.int .i64 a1,false),(5,.list true 0 [],false)],[]⟩=some (.normal,⟨[(0,.int .i64 a0,false),(1,.int .i64 a1,false),(5,sl 1 vint (some l),true),(6,.int .i64 i,false),(12,.bool false,false)],[]⟩):=by simp only [go_sem,seval,c55,seqL,seqR,wh17] <;> rfl
  have h4:thawAt 5 ⟨[(0,.int .i64 a0,false),(1,.int .i64 a1,false),(5,sl 1 vint (some l),true),(6,.int .i64 i,false),(12,.bool false,false)],[]⟩=some ⟨(5,.ms 0 0 l.length,false)::[(0,.int .i64 a0,false),(1,.int .i64 a1,false),(5,sl 1 vint (some l),true),(6,.int .i64 i,false),(12,.bool false,false)],[.cells (icl l)]⟩:=thaw_ints rfl rfl
  have h5:X pr (seqR (seqR (seqR c55.body))) ⟨(5,.ms 0 0 l.length,false)::[(0,.int .i64 a0,false),(1,.int .i64 a1,false),(5,sl 1 vint (some l),true),(6,.int .i64 i,false),(12,.bool false,false)],[.cells (icl l)]⟩=some (.ret,⟨[(4,.ms 0 0 l.length,false)],[.cells (icl d34.2.2)]⟩):=by simp only [go_sem,seval,c55,seqR,wh35] <;> rfl
  have hg:GRun pr g55 ⟨argEnv 0 [.int .i64 a0,.int .i64 a1],[]⟩ .ret ⟨[(4,.ms 0 0 l.length,false)],[.cells (icl d34.2.2)]⟩:=.seqN rfl (.code h1) (.seqN rfl (.code h2) (.seqN rfl (.code h3) (.thaw h4 (.code h5))))
  exact callG_ok okPr (show pr.fns 55=some c55 from rfl) (show c55.body=g55.erase from rfl) (by simp [c55]) hg (.inr rfl) (show resultsOf _ c55.results=some [(.ms 0 0 l.length,false)] from rfl) (by
   show freezeR [.cells (icl d34.2.2)] (.ms 0 0 l.length)=some (.list false 1 (r.map vint))
   rw [frzR_ms]
   exact frz_ms_O h) (show below 0 (sl 1 vint (some r))=true from by simp only [go_sem,seval])
theorem W55z {a0:Int}:callIso pr (X pr) 55 [.int .i64 a0,.int .i64 0]=some (sl 1 vint none,false):=by
 have h17:itO (s55_0 a0 0) (none,0,false)=some (none,false,0):=itO_out (by unfold s55_0; simp)
 have wh17:X pr (.loop c55_0) ⟨[(0,.int .i64 a0,false),(1,.int .i64 0,false),(5,.list true 0 [],false),(6,.int .i64 0,false)],[]⟩=some (.exit 0,⟨[(0,.int .i64 a0,false),(1,.int .i64 0,false),(5,.list true 0 [],false),(6,.int .i64 0,false),(12,.bool false,false)],[]⟩):=l55_0 a0 0 h17
 have hw:wrapF .i64 (-1)=-1:=rfl
 have hk:decide (0 < (-1:Int))=false:=rfl
 have h2:X pr c55_1 ⟨[(5,.list true 0 [],false),(7,.int .i64 a0,false),(8,.int .i64 (-1),false)],[]⟩=some (.exit 2,⟨[(5,.list true 0 [],false),(7,.int .i64 a0,false),(8,.int .i64 (-1),false),(23,.bool false,false)],[]⟩):=by simp only [go_sem,seval,c55_1,hk] <;> rfl
 have wh35:X pr (.loop c55_1) ⟨[(5,.list true 0 [],false),(7,.int .i64 a0,false),(8,.int .i64 (-1),false)],[]⟩=some (.exit 2,⟨[(5,.list true 0 [],false),(7,.int .i64 a0,false),(8,.int .i64 (-1),false),(23,.bool false,false)],[]⟩):=by
  rw [X_loop',h2,loopX_out (by simp)]
 have:callFn pr (X pr) 55 [.int .i64 a0,.int .i64 0] []=some (.list true 0 [],false,[]):=by
  rw [callFn_at (show pr.fns 55=some c55 from rfl) (by simp)]
  simp only [go_sem,seval,c55,wh17,hw,wh35]
 exact callIso_of rfl this rfl rfl
end Go.Z
