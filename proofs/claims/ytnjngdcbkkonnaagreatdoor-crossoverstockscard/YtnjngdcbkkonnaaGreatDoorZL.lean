/-
  Runs with ghost places: loops; boxes of truth values; a box that is shut, a list that is thawed.
-/
import Derived.Test.YtnjngdcbkkonnaaGreatDoorG0
import Derived.Test.YtnjngdcbkkonnaaGreatDoorL1
import Derived.Test.YtnjngdcbkkonnaaGreatDoorAbsH
import Derived.Test.YtnjngdcbkkonnaaGreatDoorZS
import Derived.Test.YtnjngdcbkkonnaaGreatDoorZP
import Derived.Lib.AppendIntMem
import Derived.Test.YtnjngdcbkkonnaaGreatDoorAbsN
import Derived.Test.YtnjngdcbkkonnaaGreatDoorA1
set_option linter.unusedVariables false
set_option linter.unusedSimpArgs false
set_option maxRecDepth 100000
namespace Go.Z
open Go Go.Abs
section
variable {p:jj} {xc:XC} {h0:Nat} {al:Option (List Nat)} {e:Env} {h:qn}
end
noncomputable def kr (p:jj) (more:qd2) (op:Nat→Bool):jj:={ fns:=p.fns,sprims:=p.sprims,maps:=p.maps,prims:=fun k=>bif op k then none else match more k with
 | some f=>some f
 | none=>bif (p.fns k).isSome || (p.prims k).isSome || (p.sprims k).isSome then some fun args=>qd p (X p) k args else none }
theorem qkr {p:jj} {xc:XC} {k:Nat} {args:List AVal} {r:AVal × Bool} (h:qd p xc k args=some r):((p.fns k).isSome || (p.prims k).isSome || (p.sprims k).isSome)=true:=by
 unfold qd at h
 split at h
 ·rename_i f hf; simp [hf]
 ·split at h
  ·rename_i hc
   unfold jm at hc
   split at hc
   ·rename_i f hf; simp [hf]
   ·split at hc
    ·rename_i f hf; simp [hf]
    ·cases hc
  ·cases h
theorem qog {p:jj} {more:qd2} {op:Nat→Bool} {k:Nat} (ho:op k=false) (hm:more k=none) {xc:XC} {args:List AVal} {v:AVal} {o:Bool} (h:qd p (X p) k args=some (v,o)) (hv:qb0 v=true):qd (kr p more op) xc k args=some (v,o):=by
 have hk:=qkr h
 unfold qd
 have:(kr p more op).prims k=some fun args=>qd p (X p) k args:=by simp only [kr,ho,cond_false,hm,hk,cond_true]
 rw [this]
 simp only [h,hv,cond_true]
theorem qjb {p:jj} {more:qd2} {op:Nat→Bool} {k:Nat} {f:List AVal→Option (AVal × Bool)} (ho:op k=false) (hm:more k=some f) {xc:XC} {args:List AVal} {v:AVal} {o:Bool} (h:f args=some (v,o)) (hv:qb0 v=true):qd (kr p more op) xc k args=some (v,o):=by
 unfold qd
 have:(kr p more op).prims k=some f:=by simp only [kr,ho,cond_false,hm]
 rw [this]
 simp only [h,hv,cond_true]
theorem qnl {P:Program} {p:jj} {more:qd2} {op:Nat→Bool} (hp:ProgOk P p) (hm:∀ k f,more k=some f→Enters P k∧∀ args v o,f args=some (v,o)→qb0 v=true→js 0 args=true→yg P k args v o):ProgOk P (kr p more op) where
 fn:=hp.fn
 maps:=hp.maps
 prim:=by
  intro k f hf
  cases ho:op k with
  | true=>
   have:(kr p more op).prims k=none:=by simp only [kr,ho,cond_true]
   rw [this] at hf; cases hf
  | false=>
  cases hmk:more k with
  | some g=>
   have:(kr p more op).prims k=some g:=by simp only [kr,ho,cond_false,hmk]
   rw [this] at hf
   cases hf
   exact hm k _ hmk
  | none=>
   cases hk:((p.fns k).isSome || (p.prims k).isSome || (p.sprims k).isSome) with
   | false=>
    have:(kr p more op).prims k=none:=by simp only [kr,ho,hmk,hk,cond_false]
    rw [this] at hf; cases hf
   | true=>
    have:(kr p more op).prims k=some fun args=>qd p (X p) k args:=by simp only [kr,ho,cond_false,hmk,hk,cond_true]
    rw [this] at hf
    cases hf
    refine ⟨?_,fun args v o h _ hb=>qn4 hp h hb⟩
    simp only [Bool.or_eq_true] at hk
    rcases hk with (h | h) | h
    ·obtain ⟨af,ha⟩:=Option.isSome_iff_exists.1 h
     exact hp.enters ha
    ·obtain ⟨g,hg⟩:=Option.isSome_iff_exists.1 h
     exact (hp.prim k g hg).1
    ·obtain ⟨g,hg⟩:=Option.isSome_iff_exists.1 h
     exact (hp.sprim k g hg).1
 mixed:=hp.mixed
 sprim:=hp.sprim
end Go.Z
/-
 The library's functions in the abstract machine: their contracts.
-/
namespace Go.Z
open Go Go.Abs Go.Proofs Go.RowKit
theorem qq1 {w w':World} (h:Below w.heap.size w w'):Ext w w':=⟨h.size,h.block,h.os,h.output⟩
theorem q2b {n:Int} (h0:-9223372036854775808≤n) (h1:n≤9223372036854775807):yg Tryz.prog 148 [.int .i64 n] (.str (Lib.itoa n)) false:=by
 refine qq0 fun K w vs ht hk hr=>?_
 cases hr with
 | cons _ _ v vs hx hr=>
  cases hr
  obtain rfl:=Rep.int_inv hx
  have hg:Tryz.prog.globalNamed qag=some 3:=by kernel_rfl
  refine ⟨.string ⟨⟨Lib.itoa n⟩⟩,.str _,(Tryz.strconv_Itoa n h0 h1 w (ht.table hg)).mono ?_⟩
  rintro e w' ⟨rfl,k,os,rfl⟩
  exact ⟨rfl,qq1 (Lib.below_grow w.heap.size w (Nat.le_refl _) k os)⟩
theorem qt8 {C:Ctx} {r:Nat}:∀ {ss:List (List UInt8)} {o:Nat},RepRow C r 1 (ss.map AVal.str) o→∀ (j:Nat) s,ss[j]?=some s→C.K r (o + j)=some (.string ⟨⟨s⟩⟩)
 | [],o,_,j,s,hj=>by simp at hj
 | x::ss,o,h,j,s,hj=>by
  cases h with
  | rcons _ _ _ _ _ hs hx hr=>
   cases j with
   | zero=>
    simp only [List.getElem?_cons_zero,Option.some.injEq] at hj
    subst hj
    cases hx with
    | ccons _ _ _ _ u hv hu _=>
     rw [Nat.add_zero,hv,Rep.str_inv hu]
   | succ j=>
    have:=qt8 hr j s (by simpa using hj)
    rw [show o + (j + 1)=o + 1 + j by omega]
    exact this
theorem q2e {ss:List (List UInt8)} {p:List UInt8} (hne:ss ≠ []) (hN:ss.length≤140737488355328) (hlen:(Lib.join ss p).length≤140737488355328):yg Tryz.prog 146 [.list false 1 (ss.map .str),.str p] (.str (Lib.join ss p)) false:=by
 refine qq0 fun K w vs ht hk hr=>?_
 cases hr with
 | cons _ _ v vs hx hr=>
  cases hr with
  | cons _ _ v2 vs hx2 hr=>
   cases hr
   obtain rfl:=Rep.str_inv hx2
   have hl:∃ r o cap,v=.slice (some ⟨r,o,none⟩) (ss.map AVal.str).length cap∧(ss.map AVal.str).length≤cap∧RepRow (.iso K) r 1 (ss.map .str) o:=by
    generalize hq:ss.map AVal.str=q at hx
    cases hx with
    | list _ _ r o cap hl hrow=>exact ⟨r,o,cap,rfl,hl,hrow⟩
    | lemp _ a hs=>exact absurd (List.map_eq_nil_iff.1 hq) hne
   obtain ⟨r,o,cap,rfl,hcap,hrow⟩:=hl
   have hmap:(ss.map fun s=>(⟨⟨s⟩⟩:ByteArray)).map (·.data.toList)=ss:=by
    rw [List.map_map]
    exact List.map_id' _
   have hcells:∀ (j:Nat) x,(ss.map fun s=>(⟨⟨s⟩⟩:ByteArray))[j]?=some x→w.cell? ⟨r,o + j,none⟩=some (.string x):=by
    intro j x hj
    rw [List.getElem?_map,Option.map_eq_some_iff] at hj
    obtain ⟨s,hs,rfl⟩:=hj
    exact hk _ _ _ (qt8 hrow j s hs)
   have hbk:r < w.heap.size:=by
    cases hss:ss with
    | nil=>exact absurd hss hne
    | cons s l=>
     have:=hcells 0 ⟨⟨s⟩⟩ (by rw [hss]; rfl)
     rcases Nat.lt_or_ge r w.heap.size with h | h
     ·exact h
     ·simp [World.cell?,Array.getElem?_eq_none h] at this
   have hj:=Tryz.strings_Join r o cap (ss.map fun s=>(⟨⟨s⟩⟩:ByteArray)) ⟨⟨p⟩⟩ w hcells hbk (by simpa using hN) (by simpa using hcap) (by rw [hmap]; exact hlen)
   rw [hmap,List.length_map] at hj
   rw [List.length_map]
   refine ⟨.string ⟨⟨Lib.join ss p⟩⟩,.str _,hj.mono ?_⟩
   rintro e w' ⟨rfl,hb⟩
   exact ⟨rfl,qq1 hb⟩
end Go.Z
/-
 The program with the library's contracts; the builder's methods by contract on the caller's heap.
-/
namespace Go.Z
open Go Go.Abs Go.Proofs
theorem okPr:ProgOk Tryz.prog pr:=okM ok0
theorem qap {k:Nat} (h:(tree.find k).isSome=true):Abs.Enters Tryz.prog k:=by
 obtain ⟨f,hf⟩:=Option.isSome_iff_exists.1 h
 exact okPr.enters (show pr.fns k=some f from hf)
def qgi:List AVal→Option (List (List UInt8))
 | []=>some []
 | .str s::xs=>(qgi xs).map (s::·)
 | _=>none
theorem qos:∀ ss:List (List UInt8),qgi (ss.map kh)=some ss
 | []=>rfl
 | s::ss=>by show (qgi (ss.map kh)).map (s::·)=_; rw [qos ss]; rfl
theorem qqv:∀ {xs:List AVal} {ss:List (List UInt8)},qgi xs=some ss→xs=ss.map .str
 | [],ss,h=>by cases h; rfl
 | x::xs,ss,h=>by
  cases x with
  | str s=>
   obtain ⟨l,h1,rfl⟩:=Option.map_eq_some_iff.1 (show (qgi xs).map (s::·)=some ss from h)
   rw [qqv h1]; rfl
  | _=>cases h
noncomputable def qso (n:Int):Option (List UInt8):=exO (-9223372036854775808≤n∧n≤9223372036854775807) (Lib.itoa n)
noncomputable def qqk (ss:List (List UInt8)) (p:List UInt8):Option (List UInt8):=exO (ss ≠ []∧ss.length≤140737488355328∧(Lib.join ss p).length≤140737488355328) (Lib.join ss p)
noncomputable def q20:List AVal→Option (AVal × Bool)
 | [.int .i64 n]=>(qso n).map fun r=>(.str r,false)
 | _=>none
noncomputable def qw0:List AVal→Option (AVal × Bool)
 | [.list false 1 xs,.str p]=>(qgi xs).bind fun ss=>(qqk ss p).map fun r=>(.str r,false)
 | _=>none
noncomputable def qm2:qd2:=fun k=>bif Nat.beq k 148 then some q20 else bif Nat.beq k 146 then some qw0 else none
def opD:Nat→Bool:=fun k=>Nat.beq k 92 || Nat.beq k 147
noncomputable def prD:jj:=kr pr qm2 opD
theorem q39 {args v o} (h:q20 args=some (v,o)):yg Tryz.prog 148 args v o:=by
 unfold q20 at h; split at h
 ·obtain ⟨r,h1,h2⟩:=Option.map_eq_some_iff.1 h
  cases h2; obtain ⟨⟨ha,hb⟩,rfl⟩:=qup h1; exact q2b ha hb
 ·cases h
theorem q34 {args v o} (h:qw0 args=some (v,o)):yg Tryz.prog 146 args v o:=by
 unfold qw0 at h; split at h
 ·obtain ⟨ss,h0,h⟩:=Option.bind_eq_some_iff.1 h
  obtain ⟨r,h1,h2⟩:=Option.map_eq_some_iff.1 h
  cases h2; obtain ⟨⟨ha,hb,hc⟩,rfl⟩:=qup h1
  rw [qqv h0]; exact q2e ha hb hc
 ·cases h
theorem okD:ProgOk Tryz.prog prD:=qnl okPr (by
 intro k f hf
 simp only [qm2,Bool.cond_eq_ite] at hf
 split at hf
 ·next hb=>cases hf; obtain rfl:=Nat.eq_of_beq_eq_true hb; exact ⟨qap (k:=148) (by kernel_rfl),fun args v o h _ _=>q39 h⟩
 split at hf
 ·next hb=>cases hf; obtain rfl:=Nat.eq_of_beq_eq_true hb; exact ⟨qap (k:=146) (by kernel_rfl),fun args v o h _ _=>q34 h⟩
 ·cases hf)
noncomputable def qdc (p:jj) (s:qlk):jj:={ fns:=fun k=>bif (s k).isSome then none else p.fns k,prims:=p.prims,maps:=p.maps,sprims:=fun k=>match s k with
 | some f=>some f
 | none=>p.sprims k }
theorem q2x {P:Program} {p:jj} {s:qlk} (hp:ProgOk P p) (hs:∀ k f,s k=some f→Abs.Enters P k∧∀ args h v o h',f args h=some (v,o,h')→qjj P k args h v o h'):ProgOk P (qdc p s) where
 fn:=by
  intro k f hf
  simp only [qdc,Bool.cond_eq_ite] at hf
  split at hf
  ·cases hf
  ·exact hp.fn k f hf
 prim:=hp.prim
 maps:=hp.maps
 mixed:=hp.mixed
 sprim:=by
  intro k f hf
  simp only [qdc] at hf
  split at hf
  ·rename_i g hg; cases hf; exact hs k _ hg
  ·exact hp.sprim k f hf
theorem qo0 {p:jj} {s:qlk} {xc:XC} {k:Nat} {args:List AVal} {h:qn} {f:List AVal→qn→Option (AVal × Bool × qn)} (hs:s k=some f):jm (qdc p s) xc k args h=f args h:=by
 unfold jm
 have e1:(qdc p s).fns k=none:=by simp only [qdc,hs,Option.isSome_some,cond_true]
 have e2:(qdc p s).sprims k=some f:=by simp only [qdc,hs]
 rw [e1,e2]
def qyg (l s:List UInt8):Option (List UInt8):=if l.length + s.length≤140737488355328 then some (l++s) else none
def qtn:List AVal→qn→Option (AVal × Bool × qn)
 | [.ptr b 0,.str s],h=>match h[b]? with
  | some (.bld t e l)=>bif Nat.beq t 226 && Nat.beq e 5 then (match qyg l s with
   | some r=>some (.tup [.int .i64 (s.length:Int),.any],false,h.set b (.bld 226 5 r))
   | none=>none) else none
  | _=>none
 | _,_=>none
def qus:List AVal→qn→Option (AVal × Bool × qn)
 | [.ptr b 0],h=>match h[b]? with
  | some (.bld t e l)=>bif Nat.beq t 226 && Nat.beq e 5 then some (.str l,false,h.set b .dead) else none
  | _=>none
 | _,_=>none
def sE:qlk:=fun k=>bif Nat.beq k 145 then some qtn else bif Nat.beq k 149 then some qus else none
theorem q4f {args h v o h'} (hq:qtn args h=some (v,o,h')):qjj Tryz.prog 145 args h v o h':=by
 unfold qtn at hq
 split at hq
 ·split at hq
  ·rename_i t e l hb
   simp only [Bool.cond_eq_ite,Bool.and_eq_true] at hq
   split at hq
   ·rename_i hte
    obtain rfl:=Nat.eq_of_beq_eq_true hte.1
    obtain rfl:=Nat.eq_of_beq_eq_true hte.2
    split at hq
    ·rename_i r hr
     cases hq
     unfold qyg at hr
     split at hr
     ·rename_i hl
      cases hr
      exact qzb Tryz.lays166 Tryz.Builder_Extra_156 hb hl
     ·cases hr
    ·cases hq
   ·cases hq
  ·cases hq
 ·cases hq
theorem q3x {args h v o h'} (hq:qus args h=some (v,o,h')):qjj Tryz.prog 149 args h v o h':=by
 unfold qus at hq
 split at hq
 ·split at hq
  ·rename_i t e l hb
   simp only [Bool.cond_eq_ite,Bool.and_eq_true] at hq
   split at hq
   ·rename_i hte
    obtain rfl:=Nat.eq_of_beq_eq_true hte.1
    obtain rfl:=Nat.eq_of_beq_eq_true hte.2
    cases hq
    exact qww Tryz.lays169 Tryz.Builder_Extra_169 hb
   ·cases hq
  ·cases hq
 ·cases hq
noncomputable def prE:jj:=qdc prD sE
theorem okE:ProgOk Tryz.prog prE:=q2x okD (by
 intro k f hf
 simp only [sE,Bool.cond_eq_ite] at hf
 split at hf
 ·next hb=>cases hf; obtain rfl:=Nat.eq_of_beq_eq_true hb; exact ⟨qap (k:=145) (by kernel_rfl),fun args h v o h' hq=>q4f hq⟩
 split at hf
 ·next hb=>cases hf; obtain rfl:=Nat.eq_of_beq_eq_true hb; exact ⟨qap (k:=149) (by kernel_rfl),fun args h v o h' hq=>q3x hq⟩
 ·cases hf)
theorem atE {k:Nat} (ho:opD k=false) (hm:qm2 k=none) {args:List AVal} {v:AVal} {o:Bool} (h:qd pr (X pr) k args=some (v,o)) (hv:below 0 v=true):qd prE (X prE) k args=some (v,o):=by
 have hk:=qkr h
 unfold qd
 have:prE.prims k=some fun args=>qd pr (X pr) k args:=by
  show (kr pr qm2 opD).prims k=_
  simp only [kr,ho,cond_false,hm,hk,cond_true]
 rw [this]
 simp only [h,qb0,hv,cond_true]
theorem q29 {k:Nat} {f:List AVal→Option (AVal × Bool)} (ho:opD k=false) (hm:qm2 k=some f) {args:List AVal} {v:AVal} {o:Bool} (h:f args=some (v,o)) (hv:below 0 v=true):qd prE (X prE) k args=some (v,o):=by
 unfold qd
 have:prE.prims k=some f:=by
  show (kr pr qm2 opD).prims k=_
  simp only [kr,ho,cond_false,hm]
 rw [this]
 simp only [h,qb0,hv,cond_true]
theorem jlb {l s r:List UInt8} {b:Nat} {h:qn} (hb:h[b]?=some (.bld 226 5 l)) (hr:qyg l s=some r):jm prE (X prE) 145 [.ptr b 0,.str s] h=some (.tup [.int .i64 (s.length:Int),.any],false,h.set b (.bld 226 5 r)):=by
 show jm (qdc _ sE) _ 145 _ _=_
 rw [qo0 (f:=qtn) rfl]
 simp only [qtn,hb,hr,Nat.beq_refl,Bool.and_self,cond_true]
theorem jlt {l r:List UInt8} {b:Nat} {h:qn} (hb:h[b]?=some (.bld 226 5 l)) (hr:some l=some r):jm prE (X prE) 149 [.ptr b 0] h=some (.str r,false,h.set b .dead):=by
 cases hr
 show jm (qdc _ sE) _ 149 _ _=_
 rw [qo0 (f:=qus) rfl]
 simp only [qus,hb,Nat.beq_refl,Bool.and_self,cond_true]
theorem q76 {n:Int} {r} (h:qso n=some r):qd prE (X prE) 148 [.int .i64 n]=some (.str r,false):=q29 rfl rfl (by show (qso n).map _=_; rw [h]; rfl) rfl
noncomputable def qye (o:Option (List (List UInt8))) (p:List UInt8):Option (List UInt8):=o.bind fun l=>qqk l p
theorem jk2 {o:Option (List (List UInt8))} {p:List UInt8} {r} (h:qye o p=some r):qd prE (X prE) 146 [sl 1 kh o,.str p]=some (.str r,false):=by
 cases o with
 | none=>cases h
 | some l=>
  refine q29 (f:=qw0) rfl rfl ?_ rfl
  show ((qgi (l.map kh)).bind fun ss=>(qqk ss p).map fun r=>(AVal.str r,false))=_
  rw [qos]
  show (qqk l p).map (fun r=>(AVal.str r,false))=_
  rw [show qqk l p=some r from h]; rfl
end Go.Z
