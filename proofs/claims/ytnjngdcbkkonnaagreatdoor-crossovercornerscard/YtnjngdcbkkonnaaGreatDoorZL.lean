/- Runs with ghost places. -/
import Derived.Test.YtnjngdcbkkonnaaGreatDoorG0
import Derived.Test.YtnjngdcbkkonnaaGreatDoorL1
import Derived.Test.YtnjngdcbkkonnaaGreatDoorAbsH
import Derived.Test.YtnjngdcbkkonnaaGreatDoorZS
import Derived.Test.YtnjngdcbkkonnaaGreatDoorZP
import Derived.Lib.AppendIntMem
import Derived.Test.YtnjngdcbkkonnaaGreatDoorAbsN
import Derived.Test.YtnjngdcbkkonnaaGreatDoorA1
set_option linter.unusedVariables false
set_option linter.unusedSimpArgs false
set_option maxRecDepth 100000
namespace Go.Z
open Go Go.Abs
section
variable {p:ju} {xc:XC} {h0:Nat} {al:Option (List Nat)} {e:Env} {h:qk}
end
noncomputable def qa1 (p:ju) (more:qg8) (op:Nat→Bool):ju:={ fns:=p.fns,sprims:=p.sprims,maps:=p.maps,prims:=fun k=>bif op k then none else match more k with
 | some f=>some f
 | none=>bif (p.fns k).isSome || (p.prims k).isSome || (p.sprims k).isSome then some fun args=>qc p (X p) k args else none }
theorem qmz {p:ju} {xc:XC} {k:Nat} {args:List AVal} {r:AVal × Bool} (h:qc p xc k args=some r):((p.fns k).isSome || (p.prims k).isSome || (p.sprims k).isSome)=true:=by
 unfold qc at h
 split at h
 ·rename_i f hf; simp [hf]
 ·split at h
  ·rename_i hc
   unfold jl at hc
   split at hc
   ·rename_i f hf; simp [hf]
   ·split at hc
    ·rename_i f hf; simp [hf]
    ·cases hc
  ·cases h
theorem q2p {p:ju} {more:qg8} {op:Nat→Bool} {k:Nat} (ho:op k=false) (hm:more k=none) {xc:XC} {args:List AVal} {v:AVal} {o:Bool} (h:qc p (X p) k args=some (v,o)) (hv:qb1 v=true):qc (qa1 p more op) xc k args=some (v,o):=by
 have hk:=qmz h
 unfold qc
 have:(qa1 p more op).prims k=some fun args=>qc p (X p) k args:=by simp only [qa1,ho,cond_false,hm,hk,cond_true]
 rw [this]
 simp only [h,hv,cond_true]
theorem q22 {p:ju} {more:qg8} {op:Nat→Bool} {k:Nat} {f:List AVal→Option (AVal × Bool)} (ho:op k=false) (hm:more k=some f) {xc:XC} {args:List AVal} {v:AVal} {o:Bool} (h:f args=some (v,o)) (hv:qb1 v=true):qc (qa1 p more op) xc k args=some (v,o):=by
 unfold qc
 have:(qa1 p more op).prims k=some f:=by simp only [qa1,ho,cond_false,hm]
 rw [this]
 simp only [h,hv,cond_true]
theorem qyd {P:Program} {p:ju} {more:qg8} {op:Nat→Bool} (hp:ProgOk P p) (hm:∀ k f,more k=some f→Enters P k∧∀ args v o,f args=some (v,o)→qb1 v=true→jk 0 args=true→qac P k args v o):ProgOk P (qa1 p more op) where
 fn:=hp.fn
 maps:=hp.maps
 prim:=by
  intro k f hf
  cases ho:op k with
  | true=>
   have:(qa1 p more op).prims k=none:=by simp only [qa1,ho,cond_true]
   rw [this] at hf; cases hf
  | false=>
  cases hmk:more k with
  | some g=>
   have:(qa1 p more op).prims k=some g:=by simp only [qa1,ho,cond_false,hmk]
   rw [this] at hf
   cases hf
   exact hm k _ hmk
  | none=>
   cases hk:((p.fns k).isSome || (p.prims k).isSome || (p.sprims k).isSome) with
   | false=>
    have:(qa1 p more op).prims k=none:=by simp only [qa1,ho,hmk,hk,cond_false]
    rw [this] at hf; cases hf
   | true=>
    have:(qa1 p more op).prims k=some fun args=>qc p (X p) k args:=by simp only [qa1,ho,cond_false,hmk,hk,cond_true]
    rw [this] at hf
    cases hf
    refine ⟨?_,fun args v o h _ hb=>qp6 hp h hb⟩
    simp only [Bool.or_eq_true] at hk
    rcases hk with (h | h) | h
    ·obtain ⟨af,ha⟩:=Option.isSome_iff_exists.1 h
     exact hp.enters ha
    ·obtain ⟨g,hg⟩:=Option.isSome_iff_exists.1 h
     exact (hp.prim k g hg).1
    ·obtain ⟨g,hg⟩:=Option.isSome_iff_exists.1 h
     exact (hp.sprim k g hg).1
 mixed:=hp.mixed
 sprim:=hp.sprim
end Go.Z
namespace Go.Z
open Go Go.Abs Go.Proofs Go.RowKit
theorem qt6 {w w':World} (h:Below w.heap.size w w'):Ext w w':=⟨h.size,h.block,h.os,h.output⟩
theorem q8q {n:Int} (h0:-9223372036854775808≤n) (h1:n≤9223372036854775807):qac Tryz.prog 148 [.int .i64 n] (.str (Lib.itoa n)) false:=by
 refine qt2 fun K w vs ht hk hr=>?_
 cases hr with
 | cons _ _ v vs hx hr=>
  cases hr
  obtain rfl:=Rep.int_inv hx
  have hg:Tryz.prog.globalNamed qbb=some 3:=by kernel_rfl
  refine ⟨.string ⟨⟨Lib.itoa n⟩⟩,.str _,(Tryz.strconv_Itoa n h0 h1 w (ht.table hg)).mono ?_⟩
  rintro e w' ⟨rfl,k,os,rfl⟩
  exact ⟨rfl,qt6 (Lib.below_grow w.heap.size w (Nat.le_refl _) k os)⟩
theorem qxl {C:Ctx} {r:Nat}:∀ {ss:List (List UInt8)} {o:Nat},RepRow C r 1 (ss.map AVal.str) o→∀ (j:Nat) s,ss[j]?=some s→C.K r (o + j)=some (.string ⟨⟨s⟩⟩)
 | [],o,_,j,s,hj=>by simp at hj
 | x::ss,o,h,j,s,hj=>by
  cases h with
  | rcons _ _ _ _ _ hs hx hr=>
   cases j with
   | zero=>
    simp only [List.getElem?_cons_zero,Option.some.injEq] at hj
    subst hj
    cases hx with
    | ccons _ _ _ _ u hv hu _=>
     rw [Nat.add_zero,hv,Rep.str_inv hu]
   | succ j=>
    have:=qxl hr j s (by simpa using hj)
    rw [show o + (j + 1)=o + 1 + j by omega]
    exact this
theorem q7e {ss:List (List UInt8)} {p:List UInt8} (hne:ss ≠ []) (hN:ss.length≤140737488355328) (hlen:(Lib.join ss p).length≤140737488355328):qac Tryz.prog 146 [.list false 1 (ss.map .str),.str p] (.str (Lib.join ss p)) false:=by
 refine qt2 fun K w vs ht hk hr=>?_
 cases hr with
 | cons _ _ v vs hx hr=>
  cases hr with
  | cons _ _ v2 vs hx2 hr=>
   cases hr
   obtain rfl:=Rep.str_inv hx2
   have hl:∃ r o cap,v=.slice (some ⟨r,o,none⟩) (ss.map AVal.str).length cap∧(ss.map AVal.str).length≤cap∧RepRow (.iso K) r 1 (ss.map .str) o:=by
    generalize hq:ss.map AVal.str=q at hx
    cases hx with
    | list _ _ r o cap hl hrow=>exact ⟨r,o,cap,rfl,hl,hrow⟩
    | lemp _ a hs=>exact absurd (List.map_eq_nil_iff.1 hq) hne
   obtain ⟨r,o,cap,rfl,hcap,hrow⟩:=hl
   have hmap:(ss.map fun s=>(⟨⟨s⟩⟩:ByteArray)).map (·.data.toList)=ss:=by
    rw [List.map_map]
    exact List.map_id' _
   have hcells:∀ (j:Nat) x,(ss.map fun s=>(⟨⟨s⟩⟩:ByteArray))[j]?=some x→w.cell? ⟨r,o + j,none⟩=some (.string x):=by
    intro j x hj
    rw [List.getElem?_map,Option.map_eq_some_iff] at hj
    obtain ⟨s,hs,rfl⟩:=hj
    exact hk _ _ _ (qxl hrow j s hs)
   have hbk:r < w.heap.size:=by
    cases hss:ss with
    | nil=>exact absurd hss hne
    | cons s l=>
     have:=hcells 0 ⟨⟨s⟩⟩ (by rw [hss]; rfl)
     rcases Nat.lt_or_ge r w.heap.size with h | h
     ·exact h
     ·simp [World.cell?,Array.getElem?_eq_none h] at this
   have hj:=Tryz.strings_Join r o cap (ss.map fun s=>(⟨⟨s⟩⟩:ByteArray)) ⟨⟨p⟩⟩ w hcells hbk (by simpa using hN) (by simpa using hcap) (by rw [hmap]; exact hlen)
   rw [hmap,List.length_map] at hj
   rw [List.length_map]
   refine ⟨.string ⟨⟨Lib.join ss p⟩⟩,.str _,hj.mono ?_⟩
   rintro e w' ⟨rfl,hb⟩
   exact ⟨rfl,qt6 hb⟩
end Go.Z
namespace Go.Z
open Go Go.Abs Go.Proofs
theorem okPr:ProgOk Tryz.prog pr:=okM ok0
theorem qcz {k:Nat} (h:(tree.find k).isSome=true):Abs.Enters Tryz.prog k:=by
 obtain ⟨f,hf⟩:=Option.isSome_iff_exists.1 h
 exact okPr.enters (show pr.fns k=some f from hf)
def qhx:List AVal→Option (List (List UInt8))
 | []=>some []
 | .str s::xs=>(qhx xs).map (s::·)
 | _=>none
theorem qsi:∀ ss:List (List UInt8),qhx (ss.map qao)=some ss
 | []=>rfl
 | s::ss=>by show (qhx (ss.map qao)).map (s::·)=_; rw [qsi ss]; rfl
theorem qua:∀ {xs:List AVal} {ss:List (List UInt8)},qhx xs=some ss→xs=ss.map .str
 | [],ss,h=>by cases h; rfl
 | x::xs,ss,h=>by
  cases x with
  | str s=>
   obtain ⟨l,h1,rfl⟩:=Option.map_eq_some_iff.1 (show (qhx xs).map (s::·)=some ss from h)
   rw [qua h1]; rfl
  | _=>cases h
noncomputable def qv3 (n:Int):Option (List UInt8):=exO (-9223372036854775808≤n∧n≤9223372036854775807) (Lib.itoa n)
noncomputable def qtu (ss:List (List UInt8)) (p:List UInt8):Option (List UInt8):=exO (ss ≠ []∧ss.length≤140737488355328∧(Lib.join ss p).length≤140737488355328) (Lib.join ss p)
noncomputable def q8c:List AVal→Option (AVal × Bool)
 | [.int .i64 n]=>(qv3 n).map fun r=>(.str r,false)
 | _=>none
noncomputable def q24:List AVal→Option (AVal × Bool)
 | [.list false 1 xs,.str p]=>(qhx xs).bind fun ss=>(qtu ss p).map fun r=>(.str r,false)
 | _=>none
noncomputable def qpe:qg8:=fun k=>bif Nat.beq k 148 then some q8c else bif Nat.beq k 146 then some q24 else none
def opD:Nat→Bool:=fun k=>Nat.beq k 92 || Nat.beq k 147
noncomputable def prD:ju:=qa1 pr qpe opD
theorem ja0 {args v o} (h:q8c args=some (v,o)):qac Tryz.prog 148 args v o:=by
 unfold q8c at h; split at h
 ·obtain ⟨r,h1,h2⟩:=Option.map_eq_some_iff.1 h
  cases h2; obtain ⟨⟨ha,hb⟩,rfl⟩:=qxg h1; exact q8q ha hb
 ·cases h
theorem jbp {args v o} (h:q24 args=some (v,o)):qac Tryz.prog 146 args v o:=by
 unfold q24 at h; split at h
 ·obtain ⟨ss,h0,h⟩:=Option.bind_eq_some_iff.1 h
  obtain ⟨r,h1,h2⟩:=Option.map_eq_some_iff.1 h
  cases h2; obtain ⟨⟨ha,hb,hc⟩,rfl⟩:=qxg h1
  rw [qua h0]; exact q7e ha hb hc
 ·cases h
theorem okD:ProgOk Tryz.prog prD:=qyd okPr (by
 intro k f hf
 simp only [qpe,Bool.cond_eq_ite] at hf
 split at hf
 ·next hb=>cases hf; obtain rfl:=Nat.eq_of_beq_eq_true hb; exact ⟨qcz (k:=148) (by kernel_rfl),fun args v o h _ _=>ja0 h⟩
 split at hf
 ·next hb=>cases hf; obtain rfl:=Nat.eq_of_beq_eq_true hb; exact ⟨qcz (k:=146) (by kernel_rfl),fun args v o h _ _=>jbp h⟩
 ·cases hf)
noncomputable def qe7 (p:ju) (s:qm7):ju:={ fns:=fun k=>bif (s k).isSome then none else p.fns k,prims:=p.prims,maps:=p.maps,sprims:=fun k=>match s k with
 | some f=>some f
 | none=>p.sprims k }
theorem q6x {P:Program} {p:ju} {s:qm7} (hp:ProgOk P p) (hs:∀ k f,s k=some f→Abs.Enters P k∧∀ args h v o h',f args h=some (v,o,h')→qms P k args h v o h'):ProgOk P (qe7 p s) where
 fn:=by
  intro k f hf
  simp only [qe7,Bool.cond_eq_ite] at hf
  split at hf
  ·cases hf
  ·exact hp.fn k f hf
 prim:=hp.prim
 maps:=hp.maps
 mixed:=hp.mixed
 sprim:=by
  intro k f hf
  simp only [qe7] at hf
  split at hf
  ·rename_i g hg; cases hf; exact hs k _ hg
  ·exact hp.sprim k f hf
theorem qrk {p:ju} {s:qm7} {xc:XC} {k:Nat} {args:List AVal} {h:qk} {f:List AVal→qk→Option (AVal × Bool × qk)} (hs:s k=some f):jl (qe7 p s) xc k args h=f args h:=by
 unfold jl
 have e1:(qe7 p s).fns k=none:=by simp only [qe7,hs,Option.isSome_some,cond_true]
 have e2:(qe7 p s).sprims k=some f:=by simp only [qe7,hs]
 rw [e1,e2]
def q2a (l s:List UInt8):Option (List UInt8):=if l.length + s.length≤140737488355328 then some (l++s) else none
def qya:List AVal→qk→Option (AVal × Bool × qk)
 | [.ptr b 0,.str s],h=>match h[b]? with
  | some (.bld t e l)=>bif Nat.beq t 226 && Nat.beq e 5 then (match q2a l s with
   | some r=>some (.tup [.int .i64 (s.length:Int),.any],false,h.set b (.bld 226 5 r))
   | none=>none) else none
  | _=>none
 | _,_=>none
def qv5:List AVal→qk→Option (AVal × Bool × qk)
 | [.ptr b 0],h=>match h[b]? with
  | some (.bld t e l)=>bif Nat.beq t 226 && Nat.beq e 5 then some (.str l,false,h.set b .dead) else none
  | _=>none
 | _,_=>none
def sE:qm7:=fun k=>bif Nat.beq k 145 then some qya else bif Nat.beq k 149 then some qv5 else none
theorem jao {args h v o h'} (hq:qya args h=some (v,o,h')):qms Tryz.prog 145 args h v o h':=by
 unfold qya at hq
 split at hq
 ·split at hq
  ·rename_i t e l hb
   simp only [Bool.cond_eq_ite,Bool.and_eq_true] at hq
   split at hq
   ·rename_i hte
    obtain rfl:=Nat.eq_of_beq_eq_true hte.1
    obtain rfl:=Nat.eq_of_beq_eq_true hte.2
    split at hq
    ·rename_i r hr
     cases hq
     unfold q2a at hr
     split at hr
     ·rename_i hl
      cases hr
      exact q4w Tryz.lays166 Tryz.Builder_Extra_156 hb hl
     ·cases hr
    ·cases hq
   ·cases hq
  ·cases hq
 ·cases hq
theorem ja4 {args h v o h'} (hq:qv5 args h=some (v,o,h')):qms Tryz.prog 149 args h v o h':=by
 unfold qv5 at hq
 split at hq
 ·split at hq
  ·rename_i t e l hb
   simp only [Bool.cond_eq_ite,Bool.and_eq_true] at hq
   split at hq
   ·rename_i hte
    obtain rfl:=Nat.eq_of_beq_eq_true hte.1
    obtain rfl:=Nat.eq_of_beq_eq_true hte.2
    cases hq
    exact q1j Tryz.lays169 Tryz.Builder_Extra_169 hb
   ·cases hq
  ·cases hq
 ·cases hq
noncomputable def prE:ju:=qe7 prD sE
theorem okE:ProgOk Tryz.prog prE:=q6x okD (by
 intro k f hf
 simp only [sE,Bool.cond_eq_ite] at hf
 split at hf
 ·next hb=>cases hf; obtain rfl:=Nat.eq_of_beq_eq_true hb; exact ⟨qcz (k:=145) (by kernel_rfl),fun args h v o h' hq=>jao hq⟩
 split at hf
 ·next hb=>cases hf; obtain rfl:=Nat.eq_of_beq_eq_true hb; exact ⟨qcz (k:=149) (by kernel_rfl),fun args h v o h' hq=>ja4 hq⟩
 ·cases hf)
theorem atE {k:Nat} (ho:opD k=false) (hm:qpe k=none) {args:List AVal} {v:AVal} {o:Bool} (h:qc pr (X pr) k args=some (v,o)) (hv:below 0 v=true):qc prE (X prE) k args=some (v,o):=by
 have hk:=qmz h
 unfold qc
 have:prE.prims k=some fun args=>qc pr (X pr) k args:=by
  show (qa1 pr qpe opD).prims k=_
  simp only [qa1,ho,cond_false,hm,hk,cond_true]
 rw [this]
 simp only [h,qb1,hv,cond_true]
theorem q9q {k:Nat} {f:List AVal→Option (AVal × Bool)} (ho:opD k=false) (hm:qpe k=some f) {args:List AVal} {v:AVal} {o:Bool} (h:f args=some (v,o)) (hv:below 0 v=true):qc prE (X prE) k args=some (v,o):=by
 unfold qc
 have:prE.prims k=some f:=by
  show (qa1 pr qpe opD).prims k=_
  simp only [qa1,ho,cond_false,hm]
 rw [this]
 simp only [h,qb1,hv,cond_true]
theorem jp8 {l s r:List UInt8} {b:Nat} {h:qk} (hb:h[b]?=some (.bld 226 5 l)) (hr:q2a l s=some r):jl prE (X prE) 145 [.ptr b 0,.str s] h=some (.tup [.int .i64 (s.length:Int),.any],false,h.set b (.bld 226 5 r)):=by
 show jl (qe7 _ sE) _ 145 _ _=_
 rw [qrk (f:=qya) rfl]
 simp only [qya,hb,hr,Nat.beq_refl,Bool.and_self,cond_true]
theorem jrg {l r:List UInt8} {b:Nat} {h:qk} (hb:h[b]?=some (.bld 226 5 l)) (hr:some l=some r):jl prE (X prE) 149 [.ptr b 0] h=some (.str r,false,h.set b .dead):=by
 cases hr
 show jl (qe7 _ sE) _ 149 _ _=_
 rw [qrk (f:=qv5) rfl]
 simp only [qv5,hb,Nat.beq_refl,Bool.and_self,cond_true]
theorem jfc {n:Int} {r} (h:qv3 n=some r):qc prE (X prE) 148 [.int .i64 n]=some (.str r,false):=q9q rfl rfl (by show (qv3 n).map _=_; rw [h]; rfl) rfl
noncomputable def q10 (o:Option (List (List UInt8))) (p:List UInt8):Option (List UInt8):=o.bind fun l=>qtu l p
theorem jrh {o:Option (List (List UInt8))} {p:List UInt8} {r} (h:q10 o p=some r):qc prE (X prE) 146 [sl 1 qao o,.str p]=some (.str r,false):=by
 cases o with
 | none=>cases h
 | some l=>
  refine q9q (f:=q24) rfl rfl ?_ rfl
  show ((qhx (l.map qao)).bind fun ss=>(qtu ss p).map fun r=>(AVal.str r,false))=_
  rw [qsi]
  show (qtu l p).map (fun r=>(AVal.str r,false))=_
  rw [show qtu l p=some r from h]; rfl
end Go.Z
