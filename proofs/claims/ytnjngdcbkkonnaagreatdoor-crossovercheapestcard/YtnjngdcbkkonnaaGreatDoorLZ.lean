/- The program with the result of the fixed examples. -/
import Derived.Test.YtnjngdcbkkonnaaGreatDoorA2
import Derived.Test.YtnjngdcbkkonnaaGreatDoorTK
import Derived.Test.YtnjngdcbkkonnaaGreatDoorA21
set_option linter.unusedVariables false
set_option linter.unusedSimpArgs false
set_option maxRecDepth 100000
namespace Go.Z
open Go Go.Abs Go.Proofs
def tAw:List AVal→Option (AVal × Bool)
 | []=>some (.bool true,false)
 | _=>none
def E16:Option Bool:=some true
end Go.Z
namespace Go.Z
open Go Go.Abs Go.Proofs
def opY (k:Nat):Bool:=[3,4,5,6,7,8,9,10,11,12,13,14,15].any (Nat.beq k)
def q3o:qgj:=fun k=>bif Nat.beq k 16 then some tAw else none
noncomputable def prY:jl:=qao prT q3o opY
theorem okY:ProgOk Tryz.prog prY:=qs6 okT (by
 intro k f hf
 simp only [q3o,Bool.cond_eq_ite] at hf
 split at hf
 ·next hb=>
  cases hf
  obtain rfl:=Nat.eq_of_beq_eq_true hb
  refine ⟨qbb (k:=16) (by kernel_rfl),fun args v o h _ _=>?_⟩
  cases args with
  | nil=>cases h; exact q8p
  | cons a l=>cases h
 ·cases hf)
theorem atY {k:Nat} (ho:opY k=false) (hm:q3o k=none) {args:List AVal} {v:AVal} {o:Bool} (h:qf prT (X prT) k args=some (v,o)) (hv:Abs.below 0 v=true):qf prY (X prY) k args=some (v,o):=qtl ho hm h hv
theorem Y16 {r} (h:E16=some r):qf prY (X prY) 16 []=some (.bool r,false):=by
 cases h
 exact qnj (f:=tAw) rfl rfl rfl rfl
set_option maxHeartbeats 4000000
theorem Y24 {a0:TP} {r} (h:f24 a0=some r):qf prY (X prY) 24 [sl 8 qq a0]=some (sl 8 qq r.1,r.2):=atY rfl rfl (atT rfl rfl (W24 h) (by first | rfl | simp only [go_sem,seval])) (by first | rfl | simp only [go_sem,seval])
theorem Y25 {a0:TP} {r} (h:f25 a0=some r):qf prY (X prY) 25 [sl 8 qq a0]=some (.int .i64 r,false):=atY rfl rfl (atT rfl rfl (W25 h) (by first | rfl | simp only [go_sem,seval])) (by first | rfl | simp only [go_sem,seval])
theorem Y32 {a0:TI} {r} (h:f32 a0=some r):qf prY (X prY) 32 [sl 1 qm a0]=some (.int .i64 r,false):=atY rfl rfl (atT rfl rfl (W32 h) (by first | rfl | simp only [go_sem,seval])) (by first | rfl | simp only [go_sem,seval])
theorem Y36 {a0:TP} {a1:TB} {a2:Int} {r} (h:f36 a0 a1 a2=some r):qf prY (X prY) 36 [sl 8 qq a0,sl 5 j5 a1,.int .i64 a2]=some (.bool r,false):=atY rfl rfl (atT rfl rfl (W36 h) (by first | rfl | simp only [go_sem,seval])) (by first | rfl | simp only [go_sem,seval])
theorem Y38 {a0:TB} {r} (h:f38 a0=some r):qf prY (X prY) 38 [sl 5 j5 a0]=some (sl 5 j5 r.1,r.2):=atY rfl rfl (atT rfl rfl (W38 h) (by first | rfl | simp only [go_sem,seval])) (by first | rfl | simp only [go_sem,seval])
theorem Y39 {a0:TB} {r} (h:f39 a0=some r):qf prY (X prY) 39 [sl 5 j5 a0]=some (.int .i64 r,false):=atY rfl rfl (atT rfl rfl (W39 h) (by first | rfl | simp only [go_sem,seval])) (by first | rfl | simp only [go_sem,seval])
theorem Y40 {a0:Int} {a1:Int} {a2:Int} {r} (h:f40 a0 a1 a2=some r):qf prY (X prY) 40 [.int .i64 a0,.int .i64 a1,.int .i64 a2]=some (.int .i64 r,false):=atY rfl rfl (atT rfl rfl (W40 h) (by first | rfl | simp only [go_sem,seval])) (by first | rfl | simp only [go_sem,seval])
theorem Y42 {a0:TI} {a1:TI} {r} (h:f42 a0 a1=some r):qf prY (X prY) 42 [sl 1 qm a0,sl 1 qm a1]=some (.bool r,false):=atY rfl rfl (atT rfl rfl (W42 h) (by first | rfl | simp only [go_sem,seval])) (by first | rfl | simp only [go_sem,seval])
theorem Y43 {a0:Int} {a1:Int} {a2:Int} {a3:Int} {r} (h:f43 a0 a1 a2 a3=some r):qf prY (X prY) 43 [.int .i64 a0,.int .i64 a1,.int .i64 a2,.int .i64 a3]=some (.bool r,false):=atY rfl rfl (atT rfl rfl (W43 h) (by first | rfl | simp only [go_sem,seval])) (by first | rfl | simp only [go_sem,seval])
theorem Y37 {a0:TP} {a1:TB} {a2:Int} {r} (h:f37 a0 a1 a2=some r):qf prY (X prY) 37 [sl 8 qq a0,sl 5 j5 a1,.int .i64 a2]=some (.tup [sl 1 qm r.1,.int .i64 r.2.1,.int .i64 r.2.2],false):=atY rfl rfl (W37 h) (by first | rfl | simp only [go_sem,seval])
theorem Y41 {a0:TP} {a1:TB} {a2:Int} {r} (h:f41 a0 a1 a2=some r):qf prY (X prY) 41 [sl 8 qq a0,sl 5 j5 a1,.int .i64 a2]=some (.tup [sl 1 qm r.1,.int .i64 r.2.1,.bool r.2.2],false):=atY rfl rfl (W41 h) (by first | rfl | simp only [go_sem,seval])
noncomputable def f5 (a0:TP) (a1:TB) (a2:Int):Option Bool:=
 qc (E16) fun v1=>
 cond v1
  (qc (f36 a0 a1 a2) fun v4=>
  cond v4
   (qc (f24 a0) fun v7=>
   qc (f38 a1) fun v9=>
   qc (f37 v7.1 v9.1 a2) fun v11=>
   qc (f25 a0) fun v13=>
   qc (f39 a1) fun v15=>
   qc (f40 a2 0 3) fun v17=>
   qc (f32 (some [v13,v15,v17])) fun v19=>
   cond (decide (v19=0))
    (qc (f41 a0 a1 a2) fun v22=>
    cond v22.2.2
     (qc (f42 v11.1 v22.1) fun v25=>
     cond v25
      (qc (f43 v11.2.1 v11.2.2 v19 v22.2.1) fun v28=>
      some v28)
      (some false))
     (qc (f42 v11.1 v22.1) fun v30=>
     cond v30
      (qc (f43 v11.2.1 v11.2.2 24 v22.2.1) fun v33=>
      some v33)
      (some false)))
    (qc (f42 v11.1 none) fun v35=>
    cond v35
     (qc (f43 v11.2.1 v11.2.2 v19 0) fun v38=>
     some v38)
     (some false)))
   (some v1))
  (some v1)
theorem W5 {a0:TP} {a1:TB} {a2:Int} {r} (h:f5 a0 a1 a2=some r):qf prY (X prY) 5 [sl 8 qq a0,sl 5 j5 a1,.int .i64 a2]=some (.bool r,false):=by
 unfold f5 at h
 obtain ⟨v1,h2,h⟩:=qa h
 rcases qb h with ⟨h3,h⟩ | ⟨h3,h⟩
 ·obtain ⟨v4,h5,h⟩:=qa h
  rcases qb h with ⟨h6,h⟩ | ⟨h6,h⟩
  ·obtain ⟨v7,h8,h⟩:=qa h
   obtain ⟨v9,h10,h⟩:=qa h
   obtain ⟨v11,h12,h⟩:=qa h
   have wh12:=Y37 h12
   obtain ⟨v13,h14,h⟩:=qa h
   obtain ⟨v15,h16,h⟩:=qa h
   obtain ⟨v17,h18,h⟩:=qa h
   obtain ⟨v19,h20,h⟩:=qa h
   have wh20:qf prY (X prY) 32 [.list false 1 [.int .i64 v13,.int .i64 v15,.int .i64 v17]]=some (.int .i64 v19,false):=Y32 h20
   rcases qb h with ⟨h21,h⟩ | ⟨h21,h⟩
   ·obtain ⟨v22,h23,h⟩:=qa h
    rcases qb h with ⟨h24,h⟩ | ⟨h24,h⟩
    ·obtain ⟨v25,h26,h⟩:=qa h
     have wh26:=Y42 h26
     rcases qb h with ⟨h27,h⟩ | ⟨h27,h⟩
     ·obtain ⟨v28,h29,h⟩:=qa h
      have wh29:=Y43 h29
      obtain rfl:=Option.some.inj h
      refine qn (f:=c5) rfl rfl rfl (by first | rfl | simp only [go_sem,seval]) ?_
      simp only [go_sem,seval,c5,Y16 h2,h3,Y36 h5,h6,Y24 h8,Y38 h10,wh12,Y25 h14,Y39 h16,Y40 h18,wh20,h21,Y41 h23,h24,wh26,h27,wh29]
      exact ⟨_,rfl⟩
     obtain rfl:=Option.some.inj h
     refine qn (f:=c5) rfl rfl rfl (by first | rfl | simp only [go_sem,seval]) ?_
     simp only [go_sem,seval,c5,Y16 h2,h3,Y36 h5,h6,Y24 h8,Y38 h10,wh12,Y25 h14,Y39 h16,Y40 h18,wh20,h21,Y41 h23,h24,wh26,h27]
     exact ⟨_,rfl⟩
    obtain ⟨v30,h31,h⟩:=qa h
    have wh31:=Y42 h31
    rcases qb h with ⟨h32,h⟩ | ⟨h32,h⟩
    ·obtain ⟨v33,h34,h⟩:=qa h
     have wh34:=Y43 h34
     obtain rfl:=Option.some.inj h
     refine qn (f:=c5) rfl rfl rfl (by first | rfl | simp only [go_sem,seval]) ?_
     simp only [go_sem,seval,c5,Y16 h2,h3,Y36 h5,h6,Y24 h8,Y38 h10,wh12,Y25 h14,Y39 h16,Y40 h18,wh20,h21,Y41 h23,h24,wh31,h32,wh34]
     exact ⟨_,rfl⟩
    obtain rfl:=Option.some.inj h
    refine qn (f:=c5) rfl rfl rfl (by first | rfl | simp only [go_sem,seval]) ?_
    simp only [go_sem,seval,c5,Y16 h2,h3,Y36 h5,h6,Y24 h8,Y38 h10,wh12,Y25 h14,Y39 h16,Y40 h18,wh20,h21,Y41 h23,h24,wh31,h32]
    exact ⟨_,rfl⟩
   obtain ⟨v35,h36,h⟩:=qa h
   have wh36:qf prY (X prY) 42 [sl 1 qm v11.1,.list true 0 []]=some (.bool v35,false):=Y42 h36
   rcases qb h with ⟨h37,h⟩ | ⟨h37,h⟩
   ·obtain ⟨v38,h39,h⟩:=qa h
    have wh39:=Y43 h39
    obtain rfl:=Option.some.inj h
    refine qn (f:=c5) rfl rfl rfl (by first | rfl | simp only [go_sem,seval]) ?_
    simp only [go_sem,seval,c5,Y16 h2,h3,Y36 h5,h6,Y24 h8,Y38 h10,wh12,Y25 h14,Y39 h16,Y40 h18,wh20,h21,wh36,h37,wh39]
    exact ⟨_,rfl⟩
   obtain rfl:=Option.some.inj h
   refine qn (f:=c5) rfl rfl rfl (by first | rfl | simp only [go_sem,seval]) ?_
   simp only [go_sem,seval,c5,Y16 h2,h3,Y36 h5,h6,Y24 h8,Y38 h10,wh12,Y25 h14,Y39 h16,Y40 h18,wh20,h21,wh36,h37]
   exact ⟨_,rfl⟩
  obtain rfl:=Option.some.inj h
  refine qn (f:=c5) rfl rfl rfl (by first | rfl | simp only [go_sem,seval]) ?_
  simp only [go_sem,seval,c5,Y16 h2,h3,Y36 h5,h6]
  exact ⟨_,rfl⟩
 obtain rfl:=Option.some.inj h
 refine qn (f:=c5) rfl rfl rfl (by first | rfl | simp only [go_sem,seval]) ?_
 simp only [go_sem,seval,c5,Y16 h2,h3]
 exact ⟨_,rfl⟩
end Go.Z
