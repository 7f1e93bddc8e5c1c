/-
  Runs with ghost places: loops; boxes of truth values; a box that is shut, a list that is thawed.
-/
import Derived.Test.YtnjngdcbkkonnaaGreatDoorG0
import Derived.Test.YtnjngdcbkkonnaaGreatDoorL1
import Derived.Test.YtnjngdcbkkonnaaGreatDoorAbsH
import Derived.Test.YtnjngdcbkkonnaaGreatDoorZS
import Derived.Test.YtnjngdcbkkonnaaGreatDoorZP
import Derived.Lib.AppendIntMem
import Derived.Test.YtnjngdcbkkonnaaGreatDoorAbsN
import Derived.Test.YtnjngdcbkkonnaaGreatDoorA1
set_option linter.unusedVariables false
set_option linter.unusedSimpArgs false
set_option maxRecDepth 100000
namespace Go.Z
open Go Go.Abs
section
variable {p:AProg} {xc:XC} {h0:Nat} {al:Option (List Nat)} {e:Env} {h:Heap}
end
noncomputable def withP (p:AProg) (more:Prims) (op:Nat→Bool):AProg:={ fns:=p.fns,sprims:=p.sprims,maps:=p.maps,prims:=fun k=>bif op k then none else match more k with
 | some f=>some f
 | none=>bif (p.fns k).isSome || (p.prims k).isSome || (p.sprims k).isSome then some fun args=>callIso p (X p) k args else none }
theorem callIso_known {p:AProg} {xc:XC} {k:Nat} {args:List AVal} {r:AVal × Bool} (h:callIso p xc k args=some r):((p.fns k).isSome || (p.prims k).isSome || (p.sprims k).isSome)=true:=by
 unfold callIso at h
 split at h
 ·rename_i f hf; simp [hf]
 ·split at h
  ·rename_i hc
   unfold callFn at hc
   split at hc
   ·rename_i f hf; simp [hf]
   ·split at hc
    ·rename_i f hf; simp [hf]
    ·cases hc
  ·cases h
theorem withP_call {p:AProg} {more:Prims} {op:Nat→Bool} {k:Nat} (ho:op k=false) (hm:more k=none) {xc:XC} {args:List AVal} {v:AVal} {o:Bool} (h:callIso p (X p) k args=some (v,o)) (hv:pureV v=true):callIso (withP p more op) xc k args=some (v,o):=by
 have hk:=callIso_known h
 unfold callIso
 have:(withP p more op).prims k=some fun args=>callIso p (X p) k args:=by simp only [withP,ho,cond_false,hm,hk,cond_true]
 rw [this]
 simp only [h,hv,cond_true]
theorem withP_more {p:AProg} {more:Prims} {op:Nat→Bool} {k:Nat} {f:List AVal→Option (AVal × Bool)} (ho:op k=false) (hm:more k=some f) {xc:XC} {args:List AVal} {v:AVal} {o:Bool} (h:f args=some (v,o)) (hv:pureV v=true):callIso (withP p more op) xc k args=some (v,o):=by
 unfold callIso
 have:(withP p more op).prims k=some f:=by simp only [withP,ho,cond_false,hm]
 rw [this]
 simp only [h,hv,cond_true]
theorem withP_ok {P:Program} {p:AProg} {more:Prims} {op:Nat→Bool} (hp:ProgOk P p) (hm:∀ k f,more k=some f→Enters P k∧∀ args v o,f args=some (v,o)→pureV v=true→belowL 0 args=true→IsoCall P k args v o):ProgOk P (withP p more op) where
 fn:=hp.fn
 maps:=hp.maps
 prim:=by
  intro k f hf
  cases ho:op k with
  | true=>
   have:(withP p more op).prims k=none:=by simp only [withP,ho,cond_true]
   rw [this] at hf; cases hf
  | false=>
  cases hmk:more k with
  | some g=>
   have:(withP p more op).prims k=some g:=by simp only [withP,ho,cond_false,hmk]
   rw [this] at hf
   cases hf
   exact hm k _ hmk
  | none=>
   cases hk:((p.fns k).isSome || (p.prims k).isSome || (p.sprims k).isSome) with
   | false=>
    have:(withP p more op).prims k=none:=by simp only [withP,ho,hmk,hk,cond_false]
    rw [this] at hf; cases hf
   | true=>
    have:(withP p more op).prims k=some fun args=>callIso p (X p) k args:=by simp only [withP,ho,cond_false,hmk,hk,cond_true]
    rw [this] at hf
    cases hf
    refine ⟨?_,fun args v o h _ hb=>callX_ok hp h hb⟩
    simp only [Bool.or_eq_true] at hk
    rcases hk with (h | h) | h
    ·obtain ⟨af,ha⟩:=Option.isSome_iff_exists.1 h
     exact hp.enters ha
    ·obtain ⟨g,hg⟩:=Option.isSome_iff_exists.1 h
     exact (hp.prim k g hg).1
    ·obtain ⟨g,hg⟩:=Option.isSome_iff_exists.1 h
     exact (hp.sprim k g hg).1
 mixed:=hp.mixed
 sprim:=hp.sprim
end Go.Z
/-
 The library's functions in the abstract machine: their contracts.
-/
namespace Go.Z
open Go Go.Abs Go.Proofs Go.RowKit
theorem ext_below {w w':World} (h:Below w.heap.size w w'):Ext w w':=⟨h.size,h.block,h.os,h.output⟩
theorem itoa_iso {n:Int} (h0:-9223372036854775808≤n) (h1:n≤9223372036854775807):IsoCall Tryz.prog 148 [.int .i64 n] (.str (Lib.itoa n)) false:=by
 refine iso_plain fun K w vs ht hk hr=>?_
 cases hr with
 | cons _ _ v vs hx hr=>
  cases hr
  obtain rfl:=Rep.int_inv hx
  have hg:Tryz.prog.globalNamed tabName=some 3:=by kernel_rfl
  refine ⟨.string ⟨⟨Lib.itoa n⟩⟩,.str _,(Tryz.strconv_Itoa n h0 h1 w (ht.table hg)).mono ?_⟩
  rintro e w' ⟨rfl,k,os,rfl⟩
  exact ⟨rfl,ext_below (Lib.below_grow w.heap.size w (Nat.le_refl _) k os)⟩
theorem strs_row {C:Ctx} {r:Nat}:∀ {ss:List (List UInt8)} {o:Nat},RepRow C r 1 (ss.map AVal.str) o→∀ (j:Nat) s,ss[j]?=some s→C.K r (o + j)=some (.string ⟨⟨s⟩⟩)
 | [],o,_,j,s,hj=>by simp at hj
 | x::ss,o,h,j,s,hj=>by
  cases h with
  | rcons _ _ _ _ _ hs hx hr=>
   cases j with
   | zero=>
    simp only [List.getElem?_cons_zero,Option.some.injEq] at hj
    subst hj
    cases hx with
    | ccons _ _ _ _ u hv hu _=>
     rw [Nat.add_zero,hv,Rep.str_inv hu]
   | succ j=>
    have:=strs_row hr j s (by simpa using hj)
    rw [show o + (j + 1)=o + 1 + j by omega]
    exact this
theorem join_iso {ss:List (List UInt8)} {p:List UInt8} (hne:ss ≠ []) (hN:ss.length≤140737488355328) (hlen:(Lib.join ss p).length≤140737488355328):IsoCall Tryz.prog 146 [.list false 1 (ss.map .str),.str p] (.str (Lib.join ss p)) false:=by
 refine iso_plain fun K w vs ht hk hr=>?_
 cases hr with
 | cons _ _ v vs hx hr=>
  cases hr with
  | cons _ _ v2 vs hx2 hr=>
   cases hr
   obtain rfl:=Rep.str_inv hx2
   have hl:∃ r o cap,v=.slice (some ⟨r,o,none⟩) (ss.map AVal.str).length cap∧(ss.map AVal.str).length≤cap∧RepRow (.iso K) r 1 (ss.map .str) o:=by
    generalize hq:ss.map AVal.str=q at hx
    cases hx with
    | list _ _ r o cap hl hrow=>exact ⟨r,o,cap,rfl,hl,hrow⟩
    | lemp _ a hs=>exact absurd (List.map_eq_nil_iff.1 hq) hne
   obtain ⟨r,o,cap,rfl,hcap,hrow⟩:=hl
   have hmap:(ss.map fun s=>(⟨⟨s⟩⟩:ByteArray)).map (·.data.toList)=ss:=by
    rw [List.map_map]
    exact List.map_id' _
   have hcells:∀ (j:Nat) x,(ss.map fun s=>(⟨⟨s⟩⟩:ByteArray))[j]?=some x→w.cell? ⟨r,o + j,none⟩=some (.string x):=by
    intro j x hj
    rw [List.getElem?_map,Option.map_eq_some_iff] at hj
    obtain ⟨s,hs,rfl⟩:=hj
    exact hk _ _ _ (strs_row hrow j s hs)
   have hbk:r < w.heap.size:=by
    cases hss:ss with
    | nil=>exact absurd hss hne
    | cons s l=>
     have:=hcells 0 ⟨⟨s⟩⟩ (by rw [hss]; rfl)
     rcases Nat.lt_or_ge r w.heap.size with h | h
     ·exact h
     ·simp [World.cell?,Array.getElem?_eq_none h] at this
   have hj:=Tryz.strings_Join r o cap (ss.map fun s=>(⟨⟨s⟩⟩:ByteArray)) ⟨⟨p⟩⟩ w hcells hbk (by simpa using hN) (by simpa using hcap) (by rw [hmap]; exact hlen)
   rw [hmap,List.length_map] at hj
   rw [List.length_map]
   refine ⟨.string ⟨⟨Lib.join ss p⟩⟩,.str _,hj.mono ?_⟩
   rintro e w' ⟨rfl,hb⟩
   exact ⟨rfl,ext_below hb⟩
end Go.Z
/-
 The program with the library's contracts; the builder's methods by contract on the caller's heap.
-/
namespace Go.Z
open Go Go.Abs Go.Proofs
theorem okPr:ProgOk Tryz.prog pr:=okM ok0
theorem enters_tree {k:Nat} (h:(tree.find k).isSome=true):Abs.Enters Tryz.prog k:=by
 obtain ⟨f,hf⟩:=Option.isSome_iff_exists.1 h
 exact okPr.enters (show pr.fns k=some f from hf)
def strsOf:List AVal→Option (List (List UInt8))
 | []=>some []
 | .str s::xs=>(strsOf xs).map (s::·)
 | _=>none
theorem strsOf_map:∀ ss:List (List UInt8),strsOf (ss.map vstr)=some ss
 | []=>rfl
 | s::ss=>by show (strsOf (ss.map vstr)).map (s::·)=_; rw [strsOf_map ss]; rfl
theorem strsOf_eq:∀ {xs:List AVal} {ss:List (List UInt8)},strsOf xs=some ss→xs=ss.map .str
 | [],ss,h=>by cases h; rfl
 | x::xs,ss,h=>by
  cases x with
  | str s=>
   obtain ⟨l,h1,rfl⟩:=Option.map_eq_some_iff.1 (show (strsOf xs).map (s::·)=some ss from h)
   rw [strsOf_eq h1]; rfl
  | _=>cases h
noncomputable def E148 (n:Int):Option (List UInt8):=exO (-9223372036854775808≤n∧n≤9223372036854775807) (Lib.itoa n)
noncomputable def E146 (ss:List (List UInt8)) (p:List UInt8):Option (List UInt8):=exO (ss ≠ []∧ss.length≤140737488355328∧(Lib.join ss p).length≤140737488355328) (Lib.join ss p)
noncomputable def t148:List AVal→Option (AVal × Bool)
 | [.int .i64 n]=>(E148 n).map fun r=>(.str r,false)
 | _=>none
noncomputable def t146:List AVal→Option (AVal × Bool)
 | [.list false 1 xs,.str p]=>(strsOf xs).bind fun ss=>(E146 ss p).map fun r=>(.str r,false)
 | _=>none
noncomputable def moreD:Prims:=fun k=>bif Nat.beq k 148 then some t148 else bif Nat.beq k 146 then some t146 else none
def opD:Nat→Bool:=fun k=>Nat.beq k 92 || Nat.beq k 147
noncomputable def prD:AProg:=withP pr moreD opD
theorem t148_ok {args v o} (h:t148 args=some (v,o)):IsoCall Tryz.prog 148 args v o:=by
 unfold t148 at h; split at h
 ·obtain ⟨r,h1,h2⟩:=Option.map_eq_some_iff.1 h
  cases h2; obtain ⟨⟨ha,hb⟩,rfl⟩:=exO_some h1; exact itoa_iso ha hb
 ·cases h
theorem t146_ok {args v o} (h:t146 args=some (v,o)):IsoCall Tryz.prog 146 args v o:=by
 unfold t146 at h; split at h
 ·obtain ⟨ss,h0,h⟩:=Option.bind_eq_some_iff.1 h
  obtain ⟨r,h1,h2⟩:=Option.map_eq_some_iff.1 h
  cases h2; obtain ⟨⟨ha,hb,hc⟩,rfl⟩:=exO_some h1
  rw [strsOf_eq h0]; exact join_iso ha hb hc
 ·cases h
theorem okD:ProgOk Tryz.prog prD:=withP_ok okPr (by
 intro k f hf
 simp only [moreD,Bool.cond_eq_ite] at hf
 split at hf
 ·next hb=>cases hf; obtain rfl:=Nat.eq_of_beq_eq_true hb; exact ⟨enters_tree (k:=148) (by kernel_rfl),fun args v o h _ _=>t148_ok h⟩
 split at hf
 ·next hb=>cases hf; obtain rfl:=Nat.eq_of_beq_eq_true hb; exact ⟨enters_tree (k:=146) (by kernel_rfl),fun args v o h _ _=>t146_ok h⟩
 ·cases hf)
noncomputable def withS (p:AProg) (s:SPrims):AProg:={ fns:=fun k=>bif (s k).isSome then none else p.fns k,prims:=p.prims,maps:=p.maps,sprims:=fun k=>match s k with
 | some f=>some f
 | none=>p.sprims k }
theorem withS_ok {P:Program} {p:AProg} {s:SPrims} (hp:ProgOk P p) (hs:∀ k f,s k=some f→Abs.Enters P k∧∀ args h v o h',f args h=some (v,o,h')→ShrOk P k args h v o h'):ProgOk P (withS p s) where
 fn:=by
  intro k f hf
  simp only [withS,Bool.cond_eq_ite] at hf
  split at hf
  ·cases hf
  ·exact hp.fn k f hf
 prim:=hp.prim
 maps:=hp.maps
 mixed:=hp.mixed
 sprim:=by
  intro k f hf
  simp only [withS] at hf
  split at hf
  ·rename_i g hg; cases hf; exact hs k _ hg
  ·exact hp.sprim k f hf
theorem withS_call {p:AProg} {s:SPrims} {xc:XC} {k:Nat} {args:List AVal} {h:Heap} {f:List AVal→Heap→Option (AVal × Bool × Heap)} (hs:s k=some f):callFn (withS p s) xc k args h=f args h:=by
 unfold callFn
 have e1:(withS p s).fns k=none:=by simp only [withS,hs,Option.isSome_some,cond_true]
 have e2:(withS p s).sprims k=some f:=by simp only [withS,hs]
 rw [e1,e2]
def E145 (l s:List UInt8):Option (List UInt8):=if l.length + s.length≤140737488355328 then some (l++s) else none
def q145:List AVal→Heap→Option (AVal × Bool × Heap)
 | [.ptr b 0,.str s],h=>match h[b]? with
  | some (.bld t e l)=>bif Nat.beq t 226 && Nat.beq e 5 then (match E145 l s with
   | some r=>some (.tup [.int .i64 (s.length:Int),.any],false,h.set b (.bld 226 5 r))
   | none=>none) else none
  | _=>none
 | _,_=>none
def q149:List AVal→Heap→Option (AVal × Bool × Heap)
 | [.ptr b 0],h=>match h[b]? with
  | some (.bld t e l)=>bif Nat.beq t 226 && Nat.beq e 5 then some (.str l,false,h.set b .dead) else none
  | _=>none
 | _,_=>none
def sE:SPrims:=fun k=>bif Nat.beq k 145 then some q145 else bif Nat.beq k 149 then some q149 else none
theorem q145_ok {args h v o h'} (hq:q145 args h=some (v,o,h')):ShrOk Tryz.prog 145 args h v o h':=by
 unfold q145 at hq
 split at hq
 ·split at hq
  ·rename_i t e l hb
   simp only [Bool.cond_eq_ite,Bool.and_eq_true] at hq
   split at hq
   ·rename_i hte
    obtain rfl:=Nat.eq_of_beq_eq_true hte.1
    obtain rfl:=Nat.eq_of_beq_eq_true hte.2
    split at hq
    ·rename_i r hr
     cases hq
     unfold E145 at hr
     split at hr
     ·rename_i hl
      cases hr
      exact write_shr Tryz.lays166 Tryz.Builder_Extra_156 hb hl
     ·cases hr
    ·cases hq
   ·cases hq
  ·cases hq
 ·cases hq
theorem q149_ok {args h v o h'} (hq:q149 args h=some (v,o,h')):ShrOk Tryz.prog 149 args h v o h':=by
 unfold q149 at hq
 split at hq
 ·split at hq
  ·rename_i t e l hb
   simp only [Bool.cond_eq_ite,Bool.and_eq_true] at hq
   split at hq
   ·rename_i hte
    obtain rfl:=Nat.eq_of_beq_eq_true hte.1
    obtain rfl:=Nat.eq_of_beq_eq_true hte.2
    cases hq
    exact string_shr Tryz.lays169 Tryz.Builder_Extra_169 hb
   ·cases hq
  ·cases hq
 ·cases hq
noncomputable def prE:AProg:=withS prD sE
theorem okE:ProgOk Tryz.prog prE:=withS_ok okD (by
 intro k f hf
 simp only [sE,Bool.cond_eq_ite] at hf
 split at hf
 ·next hb=>cases hf; obtain rfl:=Nat.eq_of_beq_eq_true hb; exact ⟨enters_tree (k:=145) (by kernel_rfl),fun args h v o h' hq=>q145_ok hq⟩
 split at hf
 ·next hb=>cases hf; obtain rfl:=Nat.eq_of_beq_eq_true hb; exact ⟨enters_tree (k:=149) (by kernel_rfl),fun args h v o h' hq=>q149_ok hq⟩
 ·cases hf)
theorem atE {k:Nat} (ho:opD k=false) (hm:moreD k=none) {args:List AVal} {v:AVal} {o:Bool} (h:callIso pr (X pr) k args=some (v,o)) (hv:below 0 v=true):callIso prE (X prE) k args=some (v,o):=by
 have hk:=callIso_known h
 unfold callIso
 have:prE.prims k=some fun args=>callIso pr (X pr) k args:=by
  show (withP pr moreD opD).prims k=_
  simp only [withP,ho,cond_false,hm,hk,cond_true]
 rw [this]
 simp only [h,pureV,hv,cond_true]
theorem moreE {k:Nat} {f:List AVal→Option (AVal × Bool)} (ho:opD k=false) (hm:moreD k=some f) {args:List AVal} {v:AVal} {o:Bool} (h:f args=some (v,o)) (hv:below 0 v=true):callIso prE (X prE) k args=some (v,o):=by
 unfold callIso
 have:prE.prims k=some f:=by
  show (withP pr moreD opD).prims k=_
  simp only [withP,ho,cond_false,hm]
 rw [this]
 simp only [h,pureV,hv,cond_true]
theorem W145 {l s r:List UInt8} {b:Nat} {h:Heap} (hb:h[b]?=some (.bld 226 5 l)) (hr:E145 l s=some r):callFn prE (X prE) 145 [.ptr b 0,.str s] h=some (.tup [.int .i64 (s.length:Int),.any],false,h.set b (.bld 226 5 r)):=by
 show callFn (withS _ sE) _ 145 _ _=_
 rw [withS_call (f:=q145) rfl]
 simp only [q145,hb,hr,Nat.beq_refl,Bool.and_self,cond_true]
theorem W149 {l r:List UInt8} {b:Nat} {h:Heap} (hb:h[b]?=some (.bld 226 5 l)) (hr:some l=some r):callFn prE (X prE) 149 [.ptr b 0] h=some (.str r,false,h.set b .dead):=by
 cases hr
 show callFn (withS _ sE) _ 149 _ _=_
 rw [withS_call (f:=q149) rfl]
 simp only [q149,hb,Nat.beq_refl,Bool.and_self,cond_true]
theorem N148 {n:Int} {r} (h:E148 n=some r):callIso prE (X prE) 148 [.int .i64 n]=some (.str r,false):=moreE rfl rfl (by show (E148 n).map _=_; rw [h]; rfl) rfl
noncomputable def E146o (o:Option (List (List UInt8))) (p:List UInt8):Option (List UInt8):=o.bind fun l=>E146 l p
theorem N146 {o:Option (List (List UInt8))} {p:List UInt8} {r} (h:E146o o p=some r):callIso prE (X prE) 146 [sl 1 vstr o,.str p]=some (.str r,false):=by
 cases o with
 | none=>cases h
 | some l=>
  refine moreE (f:=t146) rfl rfl ?_ rfl
  show ((strsOf (l.map vstr)).bind fun ss=>(E146 ss p).map fun r=>(AVal.str r,false))=_
  rw [strsOf_map]
  show (E146 l p).map (fun r=>(AVal.str r,false))=_
  rw [show E146 l p=some r from h]; rfl
end Go.Z
