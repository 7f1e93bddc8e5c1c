/- Runs with ghost places. -/
import Derived.Test.YtnjngdcbkkonnaaGreatDoorG0
import Derived.Test.YtnjngdcbkkonnaaGreatDoorL1
import Derived.Test.YtnjngdcbkkonnaaGreatDoorAbsH
import Derived.Test.YtnjngdcbkkonnaaGreatDoorZS
import Derived.Test.YtnjngdcbkkonnaaGreatDoorZP
import Derived.Lib.AppendIntMem
import Derived.Test.YtnjngdcbkkonnaaGreatDoorAbsN
import Derived.Test.YtnjngdcbkkonnaaGreatDoorA1
set_option linter.unusedVariables false
set_option linter.unusedSimpArgs false
set_option maxRecDepth 100000
namespace Go.Z
open Go Go.Abs
section
variable {p:jm} {xc:XC} {h0:Nat} {al:Option (List Nat)} {e:Env} {h:qm}
end
noncomputable def kq (p:jm) (more:qek) (op:Nat→Bool):jm:={ fns:=p.fns,sprims:=p.sprims,maps:=p.maps,prims:=fun k=>bif op k then none else match more k with
 | some f=>some f
 | none=>bif (p.fns k).isSome || (p.prims k).isSome || (p.sprims k).isSome then some fun args=>qd p (X p) k args else none }
theorem qkd {p:jm} {xc:XC} {k:Nat} {args:List AVal} {r:AVal × Bool} (h:qd p xc k args=some r):((p.fns k).isSome || (p.prims k).isSome || (p.sprims k).isSome)=true:=by
 unfold qd at h
 split at h
 ·rename_i f hf; simp [hf]
 ·split at h
  ·rename_i hc
   unfold ja at hc
   split at hc
   ·rename_i f hf; simp [hf]
   ·split at hc
    ·rename_i f hf; simp [hf]
    ·cases hc
  ·cases h
theorem qoc {p:jm} {more:qek} {op:Nat→Bool} {k:Nat} (ho:op k=false) (hm:more k=none) {xc:XC} {args:List AVal} {v:AVal} {o:Bool} (h:qd p (X p) k args=some (v,o)) (hv:qck v=true):qd (kq p more op) xc k args=some (v,o):=by
 have hk:=qkd h
 unfold qd
 have:(kq p more op).prims k=some fun args=>qd p (X p) k args:=by simp only [kq,ho,cond_false,hm,hk,cond_true]
 rw [this]
 simp only [h,hv,cond_true]
theorem qfj {p:jm} {more:qek} {op:Nat→Bool} {k:Nat} {f:List AVal→Option (AVal × Bool)} (ho:op k=false) (hm:more k=some f) {xc:XC} {args:List AVal} {v:AVal} {o:Bool} (h:f args=some (v,o)) (hv:qck v=true):qd (kq p more op) xc k args=some (v,o):=by
 unfold qd
 have:(kq p more op).prims k=some f:=by simp only [kq,ho,cond_false,hm]
 rw [this]
 simp only [h,hv,cond_true]
theorem qnl {P:Program} {p:jm} {more:qek} {op:Nat→Bool} (hp:ProgOk P p) (hm:∀ k f,more k=some f→Enters P k∧∀ args v o,f args=some (v,o)→qck v=true→ju 0 args=true→zm P k args v o):ProgOk P (kq p more op) where
 fn:=hp.fn
 maps:=hp.maps
 prim:=by
  intro k f hf
  cases ho:op k with
  | true=>
   have:(kq p more op).prims k=none:=by simp only [kq,ho,cond_true]
   rw [this] at hf; cases hf
  | false=>
  cases hmk:more k with
  | some g=>
   have:(kq p more op).prims k=some g:=by simp only [kq,ho,cond_false,hmk]
   rw [this] at hf
   cases hf
   exact hm k _ hmk
  | none=>
   cases hk:((p.fns k).isSome || (p.prims k).isSome || (p.sprims k).isSome) with
   | false=>
    have:(kq p more op).prims k=none:=by simp only [kq,ho,hmk,hk,cond_false]
    rw [this] at hf; cases hf
   | true=>
    have:(kq p more op).prims k=some fun args=>qd p (X p) k args:=by simp only [kq,ho,cond_false,hmk,hk,cond_true]
    rw [this] at hf
    cases hf
    refine ⟨?_,fun args v o h _ hb=>qnj hp h hb⟩
    simp only [Bool.or_eq_true] at hk
    rcases hk with (h | h) | h
    ·obtain ⟨af,ha⟩:=Option.isSome_iff_exists.1 h
     exact hp.enters ha
    ·obtain ⟨g,hg⟩:=Option.isSome_iff_exists.1 h
     exact (hp.prim k g hg).1
    ·obtain ⟨g,hg⟩:=Option.isSome_iff_exists.1 h
     exact (hp.sprim k g hg).1
 mixed:=hp.mixed
 sprim:=hp.sprim
end Go.Z
namespace Go.Z
open Go Go.Abs Go.Proofs Go.RowKit
theorem qqm {w w':World} (h:Below w.heap.size w w'):Ext w w':=⟨h.size,h.block,h.os,h.output⟩
theorem q2b {n:Int} (h0:-9223372036854775808≤n) (h1:n≤9223372036854775807):zm Tryz.prog 148 [.int .i64 n] (.str (Lib.itoa n)) false:=by
 refine qhl fun K w vs ht hk hr=>?_
 cases hr with
 | cons _ _ v vs hx hr=>
  cases hr
  obtain rfl:=Rep.int_inv hx
  have hg:Tryz.prog.globalNamed qaj=some 3:=by kernel_rfl
  refine ⟨.string ⟨⟨Lib.itoa n⟩⟩,.str _,(Tryz.strconv_Itoa n h0 h1 w (ht.table hg)).mono ?_⟩
  rintro e w' ⟨rfl,k,os,rfl⟩
  exact ⟨rfl,qqm (Lib.below_grow w.heap.size w (Nat.le_refl _) k os)⟩
theorem qts {C:Ctx}:∀ (l:List ByteArray),RepL C (l.map fun s=>.str s.data.toList) (l.map Value.string)
 | []=>.nil
 | s::l=>.cons _ _ _ _ (show Rep C (.str s.data.toList) (.string s) from .str _) (qts l)
theorem qs2 {C:Ctx} {r:Nat}:∀ {ss:List (List UInt8)} {o:Nat},RepRow C r 1 (ss.map AVal.str) o→∀ (j:Nat) s,ss[j]?=some s→C.K r (o + j)=some (.string ⟨⟨s⟩⟩)
 | [],o,_,j,s,hj=>by simp at hj
 | x::ss,o,h,j,s,hj=>by
  cases h with
  | rcons _ _ _ _ _ hs hx hr=>
   cases j with
   | zero=>
    simp only [List.getElem?_cons_zero,Option.some.injEq] at hj
    subst hj
    cases hx with
    | ccons _ _ _ _ u hv hu _=>
     rw [Nat.add_zero,hv,Rep.str_inv hu]
   | succ j=>
    have:=qs2 hr j s (by simpa using hj)
    rw [show o + (j + 1)=o + 1 + j by omega]
    exact this
theorem q24 {ss:List (List UInt8)} {p:List UInt8} (hne:ss ≠ []) (hN:ss.length≤140737488355328) (hlen:(Lib.join ss p).length≤140737488355328):zm Tryz.prog 146 [.list false 1 (ss.map .str),.str p] (.str (Lib.join ss p)) false:=by
 refine qhl fun K w vs ht hk hr=>?_
 cases hr with
 | cons _ _ v vs hx hr=>
  cases hr with
  | cons _ _ v2 vs hx2 hr=>
   cases hr
   obtain rfl:=Rep.str_inv hx2
   have hl:∃ r o cap,v=.slice (some ⟨r,o,none⟩) (ss.map AVal.str).length cap∧(ss.map AVal.str).length≤cap∧RepRow (.iso K) r 1 (ss.map .str) o:=by
    generalize hq:ss.map AVal.str=q at hx
    cases hx with
    | list _ _ r o cap hl hrow=>exact ⟨r,o,cap,rfl,hl,hrow⟩
    | lemp _ a hs=>exact absurd (List.map_eq_nil_iff.1 hq) hne
   obtain ⟨r,o,cap,rfl,hcap,hrow⟩:=hl
   have hmap:(ss.map fun s=>(⟨⟨s⟩⟩:ByteArray)).map (·.data.toList)=ss:=by
    rw [List.map_map]
    exact List.map_id' _
   have hcells:∀ (j:Nat) x,(ss.map fun s=>(⟨⟨s⟩⟩:ByteArray))[j]?=some x→w.cell? ⟨r,o + j,none⟩=some (.string x):=by
    intro j x hj
    rw [List.getElem?_map,Option.map_eq_some_iff] at hj
    obtain ⟨s,hs,rfl⟩:=hj
    exact hk _ _ _ (qs2 hrow j s hs)
   have hbk:r < w.heap.size:=by
    cases hss:ss with
    | nil=>exact absurd hss hne
    | cons s l=>
     have:=hcells 0 ⟨⟨s⟩⟩ (by rw [hss]; rfl)
     rcases Nat.lt_or_ge r w.heap.size with h | h
     ·exact h
     ·simp [World.cell?,Array.getElem?_eq_none h] at this
   have hj:=Tryz.strings_Join r o cap (ss.map fun s=>(⟨⟨s⟩⟩:ByteArray)) ⟨⟨p⟩⟩ w hcells hbk (by simpa using hN) (by simpa using hcap) (by rw [hmap]; exact hlen)
   rw [hmap,List.length_map] at hj
   rw [List.length_map]
   refine ⟨.string ⟨⟨Lib.join ss p⟩⟩,.str _,hj.mono ?_⟩
   rintro e w' ⟨rfl,hb⟩
   exact ⟨rfl,qqm hb⟩
end Go.Z
namespace Go.Z
open Go Go.Abs Go.Proofs
theorem okPr:ProgOk Tryz.prog pr:=okM ok0
theorem qab {k:Nat} (h:(tree.find k).isSome=true):Abs.Enters Tryz.prog k:=by
 obtain ⟨f,hf⟩:=Option.isSome_iff_exists.1 h
 exact okPr.enters (show pr.fns k=some f from hf)
def qgq:List AVal→Option (List (List UInt8))
 | []=>some []
 | .str s::xs=>(qgq xs).map (s::·)
 | _=>none
theorem qn9:∀ ss:List (List UInt8),qgq (ss.map j5)=some ss
 | []=>rfl
 | s::ss=>by show (qgq (ss.map j5)).map (s::·)=_; rw [qn9 ss]; rfl
theorem qqd:∀ {xs:List AVal} {ss:List (List UInt8)},qgq xs=some ss→xs=ss.map .str
 | [],ss,h=>by cases h; rfl
 | x::xs,ss,h=>by
  cases x with
  | str s=>
   obtain ⟨l,h1,rfl⟩:=Option.map_eq_some_iff.1 (show (qgq xs).map (s::·)=some ss from h)
   rw [qqd h1]; rfl
  | _=>cases h
noncomputable def qth (n:Int):Option (List UInt8):=exO (-9223372036854775808≤n∧n≤9223372036854775807) (Lib.itoa n)
noncomputable def qlr (ss:List (List UInt8)) (p:List UInt8):Option (List UInt8):=exO (ss ≠ []∧ss.length≤140737488355328∧(Lib.join ss p).length≤140737488355328) (Lib.join ss p)
noncomputable def q21:List AVal→Option (AVal × Bool)
 | [.int .i64 n]=>(qth n).map fun r=>(.str r,false)
 | _=>none
noncomputable def t146:List AVal→Option (AVal × Bool)
 | [.list false 1 xs,.str p]=>(qgq xs).bind fun ss=>(qlr ss p).map fun r=>(.str r,false)
 | _=>none
noncomputable def qma:qek:=fun k=>bif Nat.beq k 148 then some q21 else bif Nat.beq k 146 then some t146 else none
def opD:Nat→Bool:=fun k=>Nat.beq k 92 || Nat.beq k 147
noncomputable def prD:jm:=kq pr qma opD
theorem q4g {args v o} (h:q21 args=some (v,o)):zm Tryz.prog 148 args v o:=by
 unfold q21 at h; split at h
 ·obtain ⟨r,h1,h2⟩:=Option.map_eq_some_iff.1 h
  cases h2; obtain ⟨⟨ha,hb⟩,rfl⟩:=qjj h1; exact q2b ha hb
 ·cases h
theorem q4x {args v o} (h:t146 args=some (v,o)):zm Tryz.prog 146 args v o:=by
 unfold t146 at h; split at h
 ·obtain ⟨ss,h0,h⟩:=Option.bind_eq_some_iff.1 h
  obtain ⟨r,h1,h2⟩:=Option.map_eq_some_iff.1 h
  cases h2; obtain ⟨⟨ha,hb,hc⟩,rfl⟩:=qjj h1
  rw [qqd h0]; exact q24 ha hb hc
 ·cases h
theorem okD:ProgOk Tryz.prog prD:=qnl okPr (by
 intro k f hf
 simp only [qma,Bool.cond_eq_ite] at hf
 split at hf
 ·next hb=>cases hf; obtain rfl:=Nat.eq_of_beq_eq_true hb; exact ⟨qab (k:=148) (by kernel_rfl),fun args v o h _ _=>q4g h⟩
 split at hf
 ·next hb=>cases hf; obtain rfl:=Nat.eq_of_beq_eq_true hb; exact ⟨qab (k:=146) (by kernel_rfl),fun args v o h _ _=>q4x h⟩
 ·cases hf)
noncomputable def qds (p:jm) (s:qlm):jm:={ fns:=fun k=>bif (s k).isSome then none else p.fns k,prims:=p.prims,maps:=p.maps,sprims:=fun k=>match s k with
 | some f=>some f
 | none=>p.sprims k }
theorem q2d {P:Program} {p:jm} {s:qlm} (hp:ProgOk P p) (hs:∀ k f,s k=some f→Abs.Enters P k∧∀ args h v o h',f args h=some (v,o,h')→qj5 P k args h v o h'):ProgOk P (qds p s) where
 fn:=by
  intro k f hf
  simp only [qds,Bool.cond_eq_ite] at hf
  split at hf
  ·cases hf
  ·exact hp.fn k f hf
 prim:=hp.prim
 maps:=hp.maps
 mixed:=hp.mixed
 sprim:=by
  intro k f hf
  simp only [qds] at hf
  split at hf
  ·rename_i g hg; cases hf; exact hs k _ hg
  ·exact hp.sprim k f hf
theorem qow {p:jm} {s:qlm} {xc:XC} {k:Nat} {args:List AVal} {h:qm} {f:List AVal→qm→Option (AVal × Bool × qm)} (hs:s k=some f):ja (qds p s) xc k args h=f args h:=by
 unfold ja
 have e1:(qds p s).fns k=none:=by simp only [qds,hs,Option.isSome_some,cond_true]
 have e2:(qds p s).sprims k=some f:=by simp only [qds,hs]
 rw [e1,e2]
def qpq (l s:List UInt8):Option (List UInt8):=if l.length + s.length≤140737488355328 then some (l++s) else none
def qtu:List AVal→qm→Option (AVal × Bool × qm)
 | [.ptr b 0,.str s],h=>match h[b]? with
  | some (.bld t e l)=>bif Nat.beq t 226 && Nat.beq e 5 then (match qpq l s with
   | some r=>some (.tup [.int .i64 (s.length:Int),.any],false,h.set b (.bld 226 5 r))
   | none=>none) else none
  | _=>none
 | _,_=>none
def qsf:List AVal→qm→Option (AVal × Bool × qm)
 | [.ptr b 0],h=>match h[b]? with
  | some (.bld t e l)=>bif Nat.beq t 226 && Nat.beq e 5 then some (.str l,false,h.set b .dead) else none
  | _=>none
 | _,_=>none
def sE:qlm:=fun k=>bif Nat.beq k 145 then some qtu else bif Nat.beq k 149 then some qsf else none
theorem q5h {args h v o h'} (hq:qtu args h=some (v,o,h')):qj5 Tryz.prog 145 args h v o h':=by
 unfold qtu at hq
 split at hq
 ·split at hq
  ·rename_i t e l hb
   simp only [Bool.cond_eq_ite,Bool.and_eq_true] at hq
   split at hq
   ·rename_i hte
    obtain rfl:=Nat.eq_of_beq_eq_true hte.1
    obtain rfl:=Nat.eq_of_beq_eq_true hte.2
    split at hq
    ·rename_i r hr
     cases hq
     unfold qpq at hr
     split at hr
     ·rename_i hl
      cases hr
      exact qzu Tryz.lays166 Tryz.Builder_Extra_156 hb hl
     ·cases hr
    ·cases hq
   ·cases hq
  ·cases hq
 ·cases hq
theorem q4t {args h v o h'} (hq:qsf args h=some (v,o,h')):qj5 Tryz.prog 149 args h v o h':=by
 unfold qsf at hq
 split at hq
 ·split at hq
  ·rename_i t e l hb
   simp only [Bool.cond_eq_ite,Bool.and_eq_true] at hq
   split at hq
   ·rename_i hte
    obtain rfl:=Nat.eq_of_beq_eq_true hte.1
    obtain rfl:=Nat.eq_of_beq_eq_true hte.2
    cases hq
    exact qyc Tryz.lays169 Tryz.Builder_Extra_169 hb
   ·cases hq
  ·cases hq
 ·cases hq
noncomputable def prE:jm:=qds prD sE
theorem okE:ProgOk Tryz.prog prE:=q2d okD (by
 intro k f hf
 simp only [sE,Bool.cond_eq_ite] at hf
 split at hf
 ·next hb=>cases hf; obtain rfl:=Nat.eq_of_beq_eq_true hb; exact ⟨qab (k:=145) (by kernel_rfl),fun args h v o h' hq=>q5h hq⟩
 split at hf
 ·next hb=>cases hf; obtain rfl:=Nat.eq_of_beq_eq_true hb; exact ⟨qab (k:=149) (by kernel_rfl),fun args h v o h' hq=>q4t hq⟩
 ·cases hf)
theorem atE {k:Nat} (ho:opD k=false) (hm:qma k=none) {args:List AVal} {v:AVal} {o:Bool} (h:qd pr (X pr) k args=some (v,o)) (hv:below 0 v=true):qd prE (X prE) k args=some (v,o):=by
 have hk:=qkd h
 unfold qd
 have:prE.prims k=some fun args=>qd pr (X pr) k args:=by
  show (kq pr qma opD).prims k=_
  simp only [kq,ho,cond_false,hm,hk,cond_true]
 rw [this]
 simp only [h,qck,hv,cond_true]
theorem q3w {k:Nat} {f:List AVal→Option (AVal × Bool)} (ho:opD k=false) (hm:qma k=some f) {args:List AVal} {v:AVal} {o:Bool} (h:f args=some (v,o)) (hv:below 0 v=true):qd prE (X prE) k args=some (v,o):=by
 unfold qd
 have:prE.prims k=some f:=by
  show (kq pr qma opD).prims k=_
  simp only [kq,ho,cond_false,hm]
 rw [this]
 simp only [h,qck,hv,cond_true]
theorem jin {l s r:List UInt8} {b:Nat} {h:qm} (hb:h[b]?=some (.bld 226 5 l)) (hr:qpq l s=some r):ja prE (X prE) 145 [.ptr b 0,.str s] h=some (.tup [.int .i64 (s.length:Int),.any],false,h.set b (.bld 226 5 r)):=by
 show ja (qds _ sE) _ 145 _ _=_
 rw [qow (f:=qtu) rfl]
 simp only [qtu,hb,hr,Nat.beq_refl,Bool.and_self,cond_true]
theorem jjl {l r:List UInt8} {b:Nat} {h:qm} (hb:h[b]?=some (.bld 226 5 l)) (hr:some l=some r):ja prE (X prE) 149 [.ptr b 0] h=some (.str r,false,h.set b .dead):=by
 cases hr
 show ja (qds _ sE) _ 149 _ _=_
 rw [qow (f:=qsf) rfl]
 simp only [qsf,hb,Nat.beq_refl,Bool.and_self,cond_true]
theorem q7x {n:Int} {r} (h:qth n=some r):qd prE (X prE) 148 [.int .i64 n]=some (.str r,false):=q3w rfl rfl (by show (qth n).map _=_; rw [h]; rfl) rfl
noncomputable def qrv (o:Option (List (List UInt8))) (p:List UInt8):Option (List UInt8):=o.bind fun l=>qlr l p
theorem jkx {o:Option (List (List UInt8))} {p:List UInt8} {r} (h:qrv o p=some r):qd prE (X prE) 146 [sl 1 j5 o,.str p]=some (.str r,false):=by
 cases o with
 | none=>cases h
 | some l=>
  refine q3w (f:=t146) rfl rfl ?_ rfl
  show ((qgq (l.map j5)).bind fun ss=>(qlr ss p).map fun r=>(AVal.str r,false))=_
  rw [qn9]
  show (qlr l p).map (fun r=>(AVal.str r,false))=_
  rw [show qlr l p=some r from h]; rfl
end Go.Z
