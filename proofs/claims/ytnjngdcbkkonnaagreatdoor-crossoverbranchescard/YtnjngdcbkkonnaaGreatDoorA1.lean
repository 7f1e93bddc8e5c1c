/-
  The structs of chapter 4, the map of kinds, maps of texts to true.
-/
import Derived.Test.YtnjngdcbkkonnaaGreatDoorG0
import Derived.Test.YtnjngdcbkkonnaaGreatDoorAbsL
import Derived.Test.YtnjngdcbkkonnaaGreatDoorZM
set_option linter.unusedVariables false
set_option linter.unusedSimpArgs false
set_option maxRecDepth 100000
namespace Go.Z
open Go Go.Abs
structure GEl where
 kind:List UInt8
 a:Int
 b:Int
def vel (p:GEl):AVal:=.agg [.str p.kind,.int .i64 p.a,.int .i64 p.b]
@[go_sem] theorem flat_vel {p:GEl}:(vel p).flat=[.str p.kind,.int .i64 p.a,.int .i64 p.b]:=rfl
@[go_sem] theorem below_vel {n:Nat} (p:GEl):below n (vel p)=true:=by rfl
@[go_sem] theorem below_vels {n z:Nat} {l:Option (List GEl)}:below n (sl z vel l)=true:=below_sl below_vel
@[go_sem] theorem vptr_vel {p:GEl}:AVal.vptr (vel p)=.vptr (.agg [.str p.kind,.int .i64 p.a,.int .i64 p.b]):=rfl
theorem app_vel_O {b t:Nat} {h:Heap} {bb:Bool} {p:GEl} {o v:Option (List GEl)} (hv:apO o [p]=some v):appR 3 b h (some t) (some (sl 3 vel o)) (some (.list bb 3 [.agg [.str p.kind,.int .i64 p.a,.int .i64 p.b]]))=ifR (decide (b≤4096)) (some ⟨sl 3 vel v,true,some t,h⟩):=app_el (x:=p) (by omega) rfl hv
theorem app_vel_N {b:Nat} {h:Heap} {bb:Bool} {p:GEl} {o v:Option (List GEl)} (hv:apO o [p]=some v) (hn:o.isNone=true):appR 3 b h none (some (sl 3 vel o)) (some (.list bb 3 [.agg [.str p.kind,.int .i64 p.a,.int .i64 p.b]]))=ifR (decide (b≤4096)) (some ⟨sl 3 vel v,true,none,h⟩):=app_none (x:=p) (by omega) rfl hn hv
structure GPart where
 name:List UInt8
 kd:List UInt8
 pa:Int
 pb:Int
 sa:Int
 sb:Int
 cost:Int
 stock:Int
def vpart (p:GPart):AVal:=.agg [.str p.name,.str p.kd,.int .i64 p.pa,.int .i64 p.pb,.int .i64 p.sa,.int .i64 p.sb,.int .i64 p.cost,.int .i64 p.stock]
@[go_sem] theorem flat_vpart {p:GPart}:(vpart p).flat=[.str p.name,.str p.kd,.int .i64 p.pa,.int .i64 p.pb,.int .i64 p.sa,.int .i64 p.sb,.int .i64 p.cost,.int .i64 p.stock]:=rfl
@[go_sem] theorem below_vpart {n:Nat} (p:GPart):below n (vpart p)=true:=by rfl
@[go_sem] theorem below_vparts {n z:Nat} {l:Option (List GPart)}:below n (sl z vpart l)=true:=below_sl below_vpart
@[go_sem] theorem vptr_vpart {p:GPart}:AVal.vptr (vpart p)=.vptr (.agg [.str p.name,.str p.kd,.int .i64 p.pa,.int .i64 p.pb,.int .i64 p.sa,.int .i64 p.sb,.int .i64 p.cost,.int .i64 p.stock]):=rfl
structure GBand where
 w:Int
 ln:Int
 ld:Int
 mn:Int
 md:Int
def vband (p:GBand):AVal:=.agg [.int .i64 p.w,.int .i64 p.ln,.int .i64 p.ld,.int .i64 p.mn,.int .i64 p.md]
@[go_sem] theorem flat_vband {p:GBand}:(vband p).flat=[.int .i64 p.w,.int .i64 p.ln,.int .i64 p.ld,.int .i64 p.mn,.int .i64 p.md]:=rfl
@[go_sem] theorem below_vband {n:Nat} (p:GBand):below n (vband p)=true:=by rfl
@[go_sem] theorem vptr_vband {p:GBand}:AVal.vptr (vband p)=.vptr (.agg [.int .i64 p.w,.int .i64 p.ln,.int .i64 p.ld,.int .i64 p.mn,.int .i64 p.md]):=rfl
structure GQuad where
 a:Int
 b:Int
 c:Int
 d:Int
def vquad (p:GQuad):AVal:=.agg [.int .i64 p.a,.int .i64 p.b,.int .i64 p.c,.int .i64 p.d]
@[go_sem] theorem flat_vquad {p:GQuad}:(vquad p).flat=[.int .i64 p.a,.int .i64 p.b,.int .i64 p.c,.int .i64 p.d]:=rfl
@[go_sem] theorem below_vquad {n:Nat} (p:GQuad):below n (vquad p)=true:=by rfl
@[go_sem] theorem vptr_vquad {p:GQuad}:AVal.vptr (vquad p)=.vptr (.agg [.int .i64 p.a,.int .i64 p.b,.int .i64 p.c,.int .i64 p.d]):=rfl
structure GMat where
 m0:Int
 m1:Int
 m2:Int
 m3:Int
 m4:Int
 m5:Int
 m6:Int
 m7:Int
def vmat (p:GMat):AVal:=.agg [.int .i64 p.m0,.int .i64 p.m1,.int .i64 p.m2,.int .i64 p.m3,.int .i64 p.m4,.int .i64 p.m5,.int .i64 p.m6,.int .i64 p.m7]
@[go_sem] theorem flat_vmat {p:GMat}:(vmat p).flat=[.int .i64 p.m0,.int .i64 p.m1,.int .i64 p.m2,.int .i64 p.m3,.int .i64 p.m4,.int .i64 p.m5,.int .i64 p.m6,.int .i64 p.m7]:=rfl
@[go_sem] theorem below_vmat {n:Nat} (p:GMat):below n (vmat p)=true:=by rfl
@[go_sem] theorem vptr_vmat {p:GMat}:AVal.vptr (vmat p)=.vptr (.agg [.int .i64 p.m0,.int .i64 p.m1,.int .i64 p.m2,.int .i64 p.m3,.int .i64 p.m4,.int .i64 p.m5,.int .i64 p.m6,.int .i64 p.m7]):=rfl
structure GFault where
 band:Int
 ladder:Option (List GEl)
def vfault (p:GFault):AVal:=.agg [.int .i64 p.band,sl 3 vel p.ladder]
@[go_sem] theorem flat_vfault {p:GFault}:(vfault p).flat=[.int .i64 p.band,sl 3 vel p.ladder]:=rfl
@[go_sem] theorem vptr_vfault {p:GFault}:AVal.vptr (vfault p)=.vptr (.agg [.int .i64 p.band,sl 3 vel p.ladder]):=rfl
structure GRefu where
 choice:Option (List Int)
 rband:Int
 rladder:Option (List GEl)
def vrefu (p:GRefu):AVal:=.agg [sl 1 vint p.choice,.int .i64 p.rband,sl 3 vel p.rladder]
@[go_sem] theorem flat_vrefu {p:GRefu}:(vrefu p).flat=[sl 1 vint p.choice,.int .i64 p.rband,sl 3 vel p.rladder]:=rfl
@[go_sem] theorem vptr_vrefu {p:GRefu}:AVal.vptr (vrefu p)=.vptr (.agg [sl 1 vint p.choice,.int .i64 p.rband,sl 3 vel p.rladder]):=rfl
structure GCase where
 parts:Option (List GPart)
 choice:Option (List Int)
 bands:Option (List GBand)
def vcase (p:GCase):AVal:=.agg [sl 8 vpart p.parts,sl 1 vint p.choice,sl 5 vband p.bands]
@[go_sem] theorem flat_vcase {p:GCase}:(vcase p).flat=[sl 8 vpart p.parts,sl 1 vint p.choice,sl 5 vband p.bands]:=rfl
@[go_sem] theorem vptr_vcase {p:GCase}:AVal.vptr (vcase p)=.vptr (.agg [sl 8 vpart p.parts,sl 1 vint p.choice,sl 5 vband p.bands]):=rfl
structure GDesk where
 parts:Option (List GPart)
 bands:Option (List GBand)
 n:Int
def vdesk (p:GDesk):AVal:=.agg [sl 8 vpart p.parts,sl 5 vband p.bands,.int .i64 p.n]
@[go_sem] theorem flat_vdesk {p:GDesk}:(vdesk p).flat=[sl 8 vpart p.parts,sl 5 vband p.bands,.int .i64 p.n]:=rfl
@[go_sem] theorem vptr_vdesk {p:GDesk}:AVal.vptr (vdesk p)=.vptr (.agg [sl 8 vpart p.parts,sl 5 vband p.bands,.int .i64 p.n]):=rfl
structure GBran where
 x:Option (List GEl)
 y:Option (List GEl)
 lo:Int
 hi:Int
def vbran (p:GBran):AVal:=.agg [sl 3 vel p.x,sl 3 vel p.y,.int .i64 p.lo,.int .i64 p.hi]
@[go_sem] theorem flat_vbran {p:GBran}:(vbran p).flat=[sl 3 vel p.x,sl 3 vel p.y,.int .i64 p.lo,.int .i64 p.hi]:=rfl
@[go_sem] theorem vptr_vbran {p:GBran}:AVal.vptr (vbran p)=.vptr (.agg [sl 3 vel p.x,sl 3 vel p.y,.int .i64 p.lo,.int .i64 p.hi]):=rfl
theorem kind0 {s:List UInt8} (h0:decide (s=([98,108,111,99,107]:List UInt8))=true):findEntry .str (.str s) kmap193 0=some (some (0,.agg [.str ([116,114,97,112]:List UInt8),.bool true,.fn (.func 218) [] []])):=by
 have e0:(s == ([98,108,111,99,107]:List UInt8))=true:=by simpa using h0
 simp only [kmap193,findEntry,eqCell,e0]
theorem kind1 {s:List UInt8} (h0:decide (s=([98,108,111,99,107]:List UInt8))=false) (h1:decide (s=([115,101,114,105,101,115]:List UInt8))=true):findEntry .str (.str s) kmap193 0=some (some (1,.agg [.str ([115,104,117,110,116]:List UInt8),.bool false,.fn (.func 219) [] []])):=by
 have e0:(s == ([98,108,111,99,107]:List UInt8))=false:=by simpa using h0
 have e1:(s == ([115,101,114,105,101,115]:List UInt8))=true:=by simpa using h1
 simp only [kmap193,findEntry,eqCell,e0,e1]
theorem kind2 {s:List UInt8} (h0:decide (s=([98,108,111,99,107]:List UInt8))=false) (h1:decide (s=([115,101,114,105,101,115]:List UInt8))=false) (h2:decide (s=([115,104,117,110,116]:List UInt8))=true):findEntry .str (.str s) kmap193 0=some (some (2,.agg [.str ([115,101,114,105,101,115]:List UInt8),.bool false,.fn (.func 220) [] []])):=by
 have e0:(s == ([98,108,111,99,107]:List UInt8))=false:=by simpa using h0
 have e1:(s == ([115,101,114,105,101,115]:List UInt8))=false:=by simpa using h1
 have e2:(s == ([115,104,117,110,116]:List UInt8))=true:=by simpa using h2
 simp only [kmap193,findEntry,eqCell,e0,e1,e2]
theorem kind3 {s:List UInt8} (h0:decide (s=([98,108,111,99,107]:List UInt8))=false) (h1:decide (s=([115,101,114,105,101,115]:List UInt8))=false) (h2:decide (s=([115,104,117,110,116]:List UInt8))=false) (h3:decide (s=([116,114,97,112]:List UInt8))=true):findEntry .str (.str s) kmap193 0=some (some (3,.agg [.str ([98,108,111,99,107]:List UInt8),.bool true,.fn (.func 221) [] []])):=by
 have e0:(s == ([98,108,111,99,107]:List UInt8))=false:=by simpa using h0
 have e1:(s == ([115,101,114,105,101,115]:List UInt8))=false:=by simpa using h1
 have e2:(s == ([115,104,117,110,116]:List UInt8))=false:=by simpa using h2
 have e3:(s == ([116,114,97,112]:List UInt8))=true:=by simpa using h3
 simp only [kmap193,findEntry,eqCell,e0,e1,e2,e3]
theorem kind4 {s:List UInt8} (h0:decide (s=([98,108,111,99,107]:List UInt8))=false) (h1:decide (s=([115,101,114,105,101,115]:List UInt8))=false) (h2:decide (s=([115,104,117,110,116]:List UInt8))=false) (h3:decide (s=([116,114,97,112]:List UInt8))=false):findEntry .str (.str s) kmap193 0=some (none):=by
 have e0:(s == ([98,108,111,99,107]:List UInt8))=false:=by simpa using h0
 have e1:(s == ([115,101,114,105,101,115]:List UInt8))=false:=by simpa using h1
 have e2:(s == ([115,104,117,110,116]:List UInt8))=false:=by simpa using h2
 have e3:(s == ([116,114,97,112]:List UInt8))=false:=by simpa using h3
 simp only [kmap193,findEntry,eqCell,e0,e1,e2,e3]
@[go_sem] theorem below_kmap193 {n:Nat}:belowBox n (.map kmap193)=true:=rfl
@[go_sem] theorem maps193:pr.maps 193=some kmap193:=rfl
def lookE2 (h:Heap) (zero:AVal) (r:Option (Option (Nat × AVal))):Option ORes:=match r with
 | some (some (_,v))=>some ⟨.tup [v,.bool true],false,none,h⟩
 | some none=>some ⟨.tup [zero,.bool false],false,none,h⟩
 | none=>none
@[go_sem] theorem lookE2_some {h:Heap} {z v:AVal} {i:Nat}:lookE2 h z (some (some (i,v)))=some ⟨.tup [v,.bool true],false,none,h⟩:=rfl
@[go_sem] theorem lookE2_none {h:Heap} {z:AVal}:lookE2 h z (some none)=some ⟨.tup [z,.bool false],false,none,h⟩:=rfl
def lookB2 (h:Heap) (kd:Kd) (z kv:AVal) (x:Option ABox):Option ORes:=match x with
 | some (.map es)=>lookE2 h z (findEntry kd kv es 0)
 | _=>none
@[go_sem] theorem lookB2_map {h:Heap} {kd:Kd} {z kv:AVal} {es:List (AVal × AVal)}:lookB2 h kd z kv (some (.map es))=lookE2 h z (findEntry kd kv es 0):=rfl
def lookupR2 (h0:Nat) (al:Option (List Nat)) (h:Heap) (kd:Kd) (z:AVal) (m k:Option AVal):Option ORes:=match m,k with
 | some (.map b),some kv=>ifR (okBox h0 al b) (lookB2 h kd z kv h[b]?)
 | some .nilmap,some _=>some ⟨.tup [z,.bool false],false,none,h⟩
 | _,_=>none
@[go_sem] theorem lookupR2_map {h0:Nat} {al:Option (List Nat)} {h:Heap} {kd:Kd} {z kv:AVal} {b:Nat}:lookupR2 h0 al h kd z (some (.map b)) (some kv)=ifR (okBox h0 al b) (lookB2 h kd z kv h[b]?):=rfl
@[go_sem] theorem s_lookup2 {p:AProg} {xc:XC} {h0:Nat} {al:Option (List Nat)} {e:Env} {h:Heap} {kd:Kd} {z:AVal} {m k:AOpd}:stepOp p xc h0 al e h (.lookup kd z true m k)=lookupR2 h0 al h kd z (evalO e m) (evalO e k):=by
 simp only [stepOp,stepRead,lookupR2]
 cases evalO e m with
 | none=>cases evalO e k <;> rfl
 | some v=>cases evalO e k with
  | none=>cases v <;> rfl
  | some kv=>cases v with
   | map b=>
    simp only [ifR,getBox,lookB2,lookE2]
    cases okBox h0 al b with
    | false=>rfl
    | true=>
     simp only [cond_true]
     cases h[b]? with
     | none=>rfl
     | some x=>cases x with
      | map es=>
       simp only []
       cases findEntry kd kv es 0 with
       | none=>rfl
       | some r=>cases r <;> rfl
      | _=>rfl
   | _=>rfl
def memS (l:List (List UInt8)) (s:List UInt8):Bool:=decide (s∈l)
def addS (l:List (List UInt8)) (s:List UInt8):Option (List (List UInt8)):=if memS l s then some l else if l.length≤1073741824 then some (l++[s]) else none
theorem lookS {h:Heap} {l:List (List UInt8)} {s:List UInt8}:lookB h .str (.bool false) (.str s) (some (.map (setOf l)))=some ⟨.bool (memS l s),false,none,h⟩:=by
 rw [lookB_map,find_str]
 unfold memS
 by_cases hm:s∈l <;> simp [hm,lookE_some,lookE_none]
theorem updS_new {h:Heap} {b:Nat} {l v:List (List UInt8)} {s:List UInt8} (hv:addS l s=some v) (hn:memS l s=false):updB h b .str (.str s) (.bool true) (some (.map (setOf l)))=newR (setBox h b (.map (setOf v))) .undef:=by
 unfold addS at hv
 rw [hn] at hv
 simp only [Bool.false_eq_true,if_false] at hv
 split at hv
 ·rename_i hl
  cases hv
  have hm:¬ s∈l:=by simpa [memS] using hn
  rw [updB_map,find_str,if_neg hm,updE_none,setOf_len,Nat.ble_eq_true_of_le hl,setOf_snoc]
  rfl
 ·cases hv
theorem updEntryS_same:∀ (l:List (List UInt8)) (i:Nat) (k:List UInt8),l[i]?=some k→updEntry (setOf l) i (.bool true)=setOf l
 | [],i,k,h=>by simp at h
 | x::l,0,k,h=>rfl
 | x::l,i + 1,k,h=>by
  have:=updEntryS_same l i k (by simpa using h)
  show (AVal.str x,AVal.bool true)::updEntry (setOf l) i (.bool true)=_
  rw [this]; rfl
theorem updS_O {h:Heap} {b:Nat} {l v:List (List UInt8)} {s:List UInt8} (hv:addS l s=some v):updB h b .str (.str s) (.bool true) (some (.map (setOf l)))=newR (setBox h b (.map (setOf v))) .undef:=by
 cases hn:memS l s with
 | false=>exact updS_new hv hn
 | true=>
  unfold addS at hv
  rw [hn] at hv
  simp only [if_true,Option.some.injEq] at hv
  subst hv
  have hm:s∈l:=by simpa [memS] using hn
  rw [updB_map,find_str,if_pos hm]
  have hi:l[l.idxOf s]?=some s:=by
   rw [List.getElem?_eq_getElem (List.idxOf_lt_length_of_mem hm),List.getElem_idxOf]
  show newR (setBox h b (.map (updEntry (setOf l) (l.idxOf s) (.bool true)))) .undef=_
  rw [updEntryS_same l _ s hi]
@[go_sem] theorem below_setOf {n:Nat}:∀ {l:List (List UInt8)},belowBox n (.map (setOf l))=true
 | []=>rfl
 | x::l=>by
  have:=below_setOf (n:=n) (l:=l)
  simp only [belowBox] at this ⊢
  show (below n (.str x) && below n (.bool true) && belowEntries n (setOf l))=true
  rw [this]; rfl
theorem mkmapS {p:AProg} {xc:XC} {h0:Nat} {al:Option (List Nat)} {e:Env} {h:Heap} {r:Nat}:stepOp p xc h0 al e h (.mkmap r)=newR (newBox h0 h r (.map (setOf []))) (.map (h0 + r)):=s_mkmap
theorem iso_F {p:AProg} {xc:XC} {k:Nat} {args:List AVal} {v:AVal} (hp:p.prims k=none) (hc:∃ hh,callFn p xc k args []=some (v,false,hh)) (hz:∀ hh,freezeR hh v=some v) (hv:below 0 v=true):callIso p xc k args=some (v,false):=by
 obtain ⟨hh,hc⟩:=hc
 exact callIso_of hp hc (hz hh) hv
end Go.Z
/-
 Chapter 4: parts and catalogues: functions that mirror the runs,and the runs (printed by walk.py).
-/
set_option maxHeartbeats 4000000
namespace Go.Z
open Go Go.Abs
noncomputable def f106 (a0:Bool) (a1:Int):Option Int:=
 cond a0
  (some a1)
  (some 0)
theorem W106 {a0:Bool} {a1:Int} {r} (h:f106 a0 a1=some r):callIso pr (X pr) 106 [.bool a0,.int .i64 a1]=some (.int .i64 r,false):=by
 unfold f106 at h
 rcases cond_split h with ⟨h1,h⟩ | ⟨h1,h⟩
 ·have hr:a1=r:=Option.some.inj h
  subst hr
  refine iso_F rfl ?_ (fun _=>by first | rfl | simp only [go_sem,seval]) (by first | rfl | simp only [go_sem,seval])
  rw [callFn_at (show pr.fns 106=some c106 from rfl) (by simp)]
  simp only [go_sem,seval,c106,h1]
  exact ⟨_,rfl⟩
 ·have hr:0=r:=Option.some.inj h
  subst hr
  refine iso_F rfl ?_ (fun _=>by first | rfl | simp only [go_sem,seval]) (by first | rfl | simp only [go_sem,seval])
  rw [callFn_at (show pr.fns 106=some c106 from rfl) (by simp)]
  simp only [go_sem,seval,c106,h1]
  exact ⟨_,rfl⟩
noncomputable def s105_0 (a0:Option (List Int)) (s0:Int):Option (Int ⊕ (Int ⊕ Int)):=
 cond (decide (s0 < ((a0.getD []).length:Int)))
  (obind (idxO (a0.getD []) s0) fun v10=>
  cond (decide (v10=0))
   (some (.inl (wrapF .i64 (s0 + 1))))
   (some (.inr (.inl v10))))
  (some (.inr (.inr s0)))
def St105_0 (a0:Option (List Int)) (s0:Int):ASt:=⟨[(5,sl 1 vint a0,false),(6,.int .i64 ((a0.getD []).length:Int),false),(7,.int .i64 s0,false)],[]⟩
def Ex105_0 (a0:Option (List Int)):Int ⊕ Int→AExit × ASt
 | .inl d=>(.ret,⟨[(2,.int .i64 d,false)],[]⟩)
 | .inr d=>(.exit 0,⟨[(5,sl 1 vint a0,false),(6,.int .i64 ((a0.getD []).length:Int),false),(7,.int .i64 d,false),(8,.bool false,false)],[]⟩)
theorem b105_0 (a0:Option (List Int)) (s0:Int) (r) (h:s105_0 a0 s0=some r):stepO pr c105_0 (St105_0 a0) (Ex105_0 a0) s0 r:=by
 unfold s105_0 at h
 rcases cond_split h with ⟨h9,h⟩ | ⟨h9,h⟩
 ·obtain ⟨v10,h11,h⟩:=obind_some h
  rcases cond_split h with ⟨h12,h⟩ | ⟨h12,h⟩
  ·cases h
   exact stepO_in (st':=⟨[(5,sl 1 vint a0,false),(6,.int .i64 ((a0.getD []).length:Int),false),(7,.int .i64 (wrapF .i64 (s0 + 1)),false)],[]⟩) (by simp only [go_sem,seval,c105_0,St105_0,h9,idxR_O h11,h12] <;> rfl) (gc_same (Nat.le_refl _))
  ·cases h
   exact stepO_out (by simp only [go_sem,seval,c105_0,St105_0,h9,idxR_O h11,h12,Ex105_0] <;> rfl)
 ·cases h
  exact stepO_out (by simp only [go_sem,seval,c105_0,St105_0,h9,Ex105_0] <;> rfl)
theorem l105_0 (a0:Option (List Int)) {s0:Int} {d} (h:itO (s105_0 a0) s0=some d):X pr (.loop c105_0) (St105_0 a0 s0)=some (Ex105_0 a0 d):=X_itO (b105_0 a0) (fun d=>by rcases d with d|d <;> (intro hh; cases hh)) h
noncomputable def f105 (a0:Option (List Int)):Option Int:=
 obind (itO (s105_0 a0) 0) fun d13=>match d13 with
  | .inl d15=>
   some d15
  | .inr d16=>
   some 0
theorem W105 {a0:Option (List Int)} {r} (h:f105 a0=some r):callIso pr (X pr) 105 [sl 1 vint a0]=some (.int .i64 r,false):=by
 unfold f105 at h
 obtain ⟨d13,h14,h⟩:=obind_some h
 rcases d13 with d15 | d16
 ·have wh14:X pr (.loop c105_0) ⟨[(5,sl 1 vint a0,false),(6,.int .i64 ((a0.getD []).length:Int),false),(7,.int .i64 0,false)],[]⟩=some (.ret,⟨[(2,.int .i64 d15,false)],[]⟩):=l105_0 a0 h14
  have hr:d15=r:=Option.some.inj h
  subst hr
  refine iso_F rfl ?_ (fun _=>by first | rfl | simp only [go_sem,seval]) (by first | rfl | simp only [go_sem,seval])
  rw [callFn_at (show pr.fns 105=some c105 from rfl) (by simp)]
  simp only [go_sem,seval,c105,wh14]
  exact ⟨_,rfl⟩
 ·have wh14:X pr (.loop c105_0) ⟨[(5,sl 1 vint a0,false),(6,.int .i64 ((a0.getD []).length:Int),false),(7,.int .i64 0,false)],[]⟩=some (.exit 0,⟨[(5,sl 1 vint a0,false),(6,.int .i64 ((a0.getD []).length:Int),false),(7,.int .i64 d16,false),(8,.bool false,false)],[]⟩):=l105_0 a0 h14
  have hr:0=r:=Option.some.inj h
  subst hr
  refine iso_F rfl ?_ (fun _=>by first | rfl | simp only [go_sem,seval]) (by first | rfl | simp only [go_sem,seval])
  rw [callFn_at (show pr.fns 105=some c105 from rfl) (by simp)]
  simp only [go_sem,seval,c105,wh14]
  exact ⟨_,rfl⟩
noncomputable def f109 (a0:Int) (a1:Int) (a2:Int):Option Int:=
 cond (decide (a0 < a1))
  (obind (f106 true 3) fun v2=>
  some v2)
  (obind (f106 (decide (a2 < a0)) 3) fun v4=>
  some v4)
theorem W109 {a0:Int} {a1:Int} {a2:Int} {r} (h:f109 a0 a1 a2=some r):callIso pr (X pr) 109 [.int .i64 a0,.int .i64 a1,.int .i64 a2]=some (.int .i64 r,false):=by
 unfold f109 at h
 rcases cond_split h with ⟨h1,h⟩ | ⟨h1,h⟩
 ·obtain ⟨v2,h3,h⟩:=obind_some h
  have hr:v2=r:=Option.some.inj h
  subst hr
  refine iso_F rfl ?_ (fun _=>by first | rfl | simp only [go_sem,seval]) (by first | rfl | simp only [go_sem,seval])
  rw [callFn_at (show pr.fns 109=some c109 from rfl) (by simp)]
  simp only [go_sem,seval,c109,h1,W106 h3]
  exact ⟨_,rfl⟩
 ·obtain ⟨v4,h5,h⟩:=obind_some h
  have wh5:callIso pr (X pr) 106 [.bool (decide (a2 < a0)),.int .i64 3]=some (.int .i64 v4,false):=W106 h5
  have hr:v4=r:=Option.some.inj h
  subst hr
  refine iso_F rfl ?_ (fun _=>by first | rfl | simp only [go_sem,seval]) (by first | rfl | simp only [go_sem,seval])
  rw [callFn_at (show pr.fns 109=some c109 from rfl) (by simp)]
  simp only [go_sem,seval,c109,h1,wh5]
  exact ⟨_,rfl⟩
noncomputable def s107_0z (a0:List UInt8):Option (Option (Nat) ⊕ (Nat ⊕ Nat)):=
 cond (decide (0 < a0.length))
  (cond (decide (65≤((decodeA a0 0).1:Int)))
   (cond (decide (((decodeA a0 0).1:Int)≤90))
    (cond (decide (48≤((decodeA a0 0).1:Int)))
     (cond (decide (((decodeA a0 0).1:Int)≤57))
      (some (.inl (some (0 + (decodeA a0 0).2))))
      (some (.inl (some (0 + (decodeA a0 0).2)))))
     (some (.inl (some (0 + (decodeA a0 0).2)))))
    (cond (decide (97≤((decodeA a0 0).1:Int)))
     (cond (decide (48≤((decodeA a0 0).1:Int)))
      (cond (decide (((decodeA a0 0).1:Int)≤57))
       (cond (decide (((decodeA a0 0).1:Int)≤122))
        (some (.inl (some (0 + (decodeA a0 0).2))))
        (some (.inr (.inl (0 + (decodeA a0 0).2)))))
       (cond (decide (((decodeA a0 0).1:Int)≤122))
        (some (.inl (some (0 + (decodeA a0 0).2))))
        (some (.inr (.inl (0 + (decodeA a0 0).2))))))
      (cond (decide (((decodeA a0 0).1:Int)≤122))
       (some (.inl (some (0 + (decodeA a0 0).2))))
       (some (.inr (.inl (0 + (decodeA a0 0).2))))))
     (cond (decide (48≤((decodeA a0 0).1:Int)))
      (cond (decide (((decodeA a0 0).1:Int)≤57))
       (some (.inr (.inl (0 + (decodeA a0 0).2))))
       (some (.inr (.inl (0 + (decodeA a0 0).2)))))
      (some (.inr (.inl (0 + (decodeA a0 0).2)))))))
   (cond (decide (97≤((decodeA a0 0).1:Int)))
    (cond (decide (48≤((decodeA a0 0).1:Int)))
     (cond (decide (((decodeA a0 0).1:Int)≤57))
      (cond (decide (((decodeA a0 0).1:Int)≤122))
       (some (.inl (some (0 + (decodeA a0 0).2))))
       (some (.inr (.inl (0 + (decodeA a0 0).2)))))
      (cond (decide (((decodeA a0 0).1:Int)≤122))
       (some (.inl (some (0 + (decodeA a0 0).2))))
       (some (.inr (.inl (0 + (decodeA a0 0).2))))))
     (cond (decide (((decodeA a0 0).1:Int)≤122))
      (some (.inl (some (0 + (decodeA a0 0).2))))
      (some (.inr (.inl (0 + (decodeA a0 0).2))))))
    (cond (decide (48≤((decodeA a0 0).1:Int)))
     (cond (decide (((decodeA a0 0).1:Int)≤57))
      (some (.inr (.inl (0 + (decodeA a0 0).2))))
      (some (.inr (.inl (0 + (decodeA a0 0).2)))))
     (some (.inr (.inl (0 + (decodeA a0 0).2)))))))
  (some (.inr (.inr 0)))
noncomputable def s107_0r (a0:List UInt8) (s0:Nat):Option (Option (Nat) ⊕ (Nat ⊕ Nat)):=
 cond (decide (s0 < a0.length))
  (cond (decide (65≤((decodeA a0 s0).1:Int)))
   (cond (decide (((decodeA a0 s0).1:Int)≤90))
    (cond (decide (48≤((decodeA a0 s0).1:Int)))
     (cond (decide (((decodeA a0 s0).1:Int)≤57))
      (some (.inl (some (s0 + (decodeA a0 s0).2))))
      (some (.inl (some (s0 + (decodeA a0 s0).2)))))
     (some (.inl (some (s0 + (decodeA a0 s0).2)))))
    (cond (decide (97≤((decodeA a0 s0).1:Int)))
     (cond (decide (48≤((decodeA a0 s0).1:Int)))
      (cond (decide (((decodeA a0 s0).1:Int)≤57))
       (cond (decide (((decodeA a0 s0).1:Int)≤122))
        (some (.inl (some (s0 + (decodeA a0 s0).2))))
        (cond (decide ((s0:Int)=0))
         (some (.inr (.inl (s0 + (decodeA a0 s0).2))))
         (some (.inl (some (s0 + (decodeA a0 s0).2))))))
       (cond (decide (((decodeA a0 s0).1:Int)≤122))
        (some (.inl (some (s0 + (decodeA a0 s0).2))))
        (cond (decide ((s0:Int)=0))
         (some (.inr (.inl (s0 + (decodeA a0 s0).2))))
         (cond (decide (((decodeA a0 s0).1:Int)=95))
          (some (.inl (some (s0 + (decodeA a0 s0).2))))
          (some (.inr (.inl (s0 + (decodeA a0 s0).2))))))))
      (cond (decide (((decodeA a0 s0).1:Int)≤122))
       (some (.inl (some (s0 + (decodeA a0 s0).2))))
       (cond (decide ((s0:Int)=0))
        (some (.inr (.inl (s0 + (decodeA a0 s0).2))))
        (cond (decide (((decodeA a0 s0).1:Int)=95))
         (some (.inl (some (s0 + (decodeA a0 s0).2))))
         (some (.inr (.inl (s0 + (decodeA a0 s0).2))))))))
     (cond (decide (48≤((decodeA a0 s0).1:Int)))
      (cond (decide (((decodeA a0 s0).1:Int)≤57))
       (cond (decide ((s0:Int)=0))
        (some (.inr (.inl (s0 + (decodeA a0 s0).2))))
        (some (.inl (some (s0 + (decodeA a0 s0).2)))))
       (cond (decide ((s0:Int)=0))
        (some (.inr (.inl (s0 + (decodeA a0 s0).2))))
        (cond (decide (((decodeA a0 s0).1:Int)=95))
         (some (.inl (some (s0 + (decodeA a0 s0).2))))
         (some (.inr (.inl (s0 + (decodeA a0 s0).2)))))))
      (cond (decide ((s0:Int)=0))
       (some (.inr (.inl (s0 + (decodeA a0 s0).2))))
       (cond (decide (((decodeA a0 s0).1:Int)=95))
        (some (.inl (some (s0 + (decodeA a0 s0).2))))
        (some (.inr (.inl (s0 + (decodeA a0 s0).2)))))))))
   (cond (decide (97≤((decodeA a0 s0).1:Int)))
    (cond (decide (48≤((decodeA a0 s0).1:Int)))
     (cond (decide (((decodeA a0 s0).1:Int)≤57))
      (cond (decide (((decodeA a0 s0).1:Int)≤122))
       (some (.inl (some (s0 + (decodeA a0 s0).2))))
       (cond (decide ((s0:Int)=0))
        (some (.inr (.inl (s0 + (decodeA a0 s0).2))))
        (some (.inl (some (s0 + (decodeA a0 s0).2))))))
      (cond (decide (((decodeA a0 s0).1:Int)≤122))
       (some (.inl (some (s0 + (decodeA a0 s0).2))))
       (cond (decide ((s0:Int)=0))
        (some (.inr (.inl (s0 + (decodeA a0 s0).2))))
        (cond (decide (((decodeA a0 s0).1:Int)=95))
         (some (.inl (some (s0 + (decodeA a0 s0).2))))
         (some (.inr (.inl (s0 + (decodeA a0 s0).2))))))))
     (cond (decide (((decodeA a0 s0).1:Int)≤122))
      (some (.inl (some (s0 + (decodeA a0 s0).2))))
      (cond (decide ((s0:Int)=0))
       (some (.inr (.inl (s0 + (decodeA a0 s0).2))))
       (cond (decide (((decodeA a0 s0).1:Int)=95))
        (some (.inl (some (s0 + (decodeA a0 s0).2))))
        (some (.inr (.inl (s0 + (decodeA a0 s0).2))))))))
    (cond (decide (48≤((decodeA a0 s0).1:Int)))
     (cond (decide (((decodeA a0 s0).1:Int)≤57))
      (cond (decide ((s0:Int)=0))
       (some (.inr (.inl (s0 + (decodeA a0 s0).2))))
       (some (.inl (some (s0 + (decodeA a0 s0).2)))))
      (cond (decide ((s0:Int)=0))
       (some (.inr (.inl (s0 + (decodeA a0 s0).2))))
       (cond (decide (((decodeA a0 s0).1:Int)=95))
        (some (.inl (some (s0 + (decodeA a0 s0).2))))
        (some (.inr (.inl (s0 + (decodeA a0 s0).2)))))))
     (cond (decide ((s0:Int)=0))
      (some (.inr (.inl (s0 + (decodeA a0 s0).2))))
      (cond (decide (((decodeA a0 s0).1:Int)=95))
       (some (.inl (some (s0 + (decodeA a0 s0).2))))
       (some (.inr (.inl (s0 + (decodeA a0 s0).2)))))))))
  (some (.inr (.inr s0)))
noncomputable def s107_0 (a0:List UInt8):Option (Nat)→Option (Option (Nat) ⊕ (Nat ⊕ Nat))
 | none=>s107_0z a0
 | some x=>s107_0r a0 x
def St107_0r (a0:List UInt8) (s0:Nat):ASt:=⟨[(0,.str a0,false),(8,.ptr 0 0,false),(46,.bool false,false)],[.iter a0 s0]⟩
def St107_0 (a0:List UInt8):Option (Nat)→ASt
 | none=>⟨[(0,.str a0,false),(8,.ptr 0 0,false)],[.iter a0 0]⟩
 | some x=>St107_0r a0 x
def Ex107_0 (a0:List UInt8):Nat ⊕ Nat→AExit × ASt
 | .inl d=>(.ret,⟨[(2,.bool false,false)],[.iter a0 d]⟩)
 | .inr d=>(.exit 0,⟨[(0,.str a0,false),(8,.ptr 0 0,false),(9,.tup [.bool false],false),(10,.bool false,false)],[.iter a0 d]⟩)
theorem b107_0z (a0:List UInt8) (r) (h:s107_0z a0=some r):stepO pr c107_0 (St107_0 a0) (Ex107_0 a0) none r:=by
 unfold s107_0z at h
 rcases cond_split h with ⟨h171,h⟩ | ⟨h171,h⟩
 ·rcases cond_split h with ⟨h172,h⟩ | ⟨h172,h⟩
  ·rcases cond_split h with ⟨h173,h⟩ | ⟨h173,h⟩
   ·rcases cond_split h with ⟨h174,h⟩ | ⟨h174,h⟩
    ·rcases cond_split h with ⟨h175,h⟩ | ⟨h175,h⟩
     ·cases h
      exact stepO_in (st':=⟨[(0,.str a0,false),(8,.ptr 0 0,false),(46,.bool false,false)],[.iter a0 (0 + (decodeA a0 0).2)]⟩) (by simp only [go_sem,seval,c107_0,St107_0,St107_0r,h171,iter_t h171,h172,h173,h174,h175] <;> rfl) (gc_same (Nat.le_refl _))
     ·cases h
      exact stepO_in (st':=⟨[(0,.str a0,false),(8,.ptr 0 0,false),(46,.bool false,false)],[.iter a0 (0 + (decodeA a0 0).2)]⟩) (by simp only [go_sem,seval,c107_0,St107_0,St107_0r,h171,iter_t h171,h172,h173,h174,h175] <;> rfl) (gc_same (Nat.le_refl _))
    ·cases h
     exact stepO_in (st':=⟨[(0,.str a0,false),(8,.ptr 0 0,false),(46,.bool false,false)],[.iter a0 (0 + (decodeA a0 0).2)]⟩) (by simp only [go_sem,seval,c107_0,St107_0,St107_0r,h171,iter_t h171,h172,h173,h174] <;> rfl) (gc_same (Nat.le_refl _))
   ·rcases cond_split h with ⟨h176,h⟩ | ⟨h176,h⟩
    ·rcases cond_split h with ⟨h177,h⟩ | ⟨h177,h⟩
     ·rcases cond_split h with ⟨h178,h⟩ | ⟨h178,h⟩
      ·rcases cond_split h with ⟨h179,h⟩ | ⟨h179,h⟩
       ·cases h
        exact stepO_in (st':=⟨[(0,.str a0,false),(8,.ptr 0 0,false),(46,.bool false,false)],[.iter a0 (0 + (decodeA a0 0).2)]⟩) (by simp only [go_sem,seval,c107_0,St107_0,St107_0r,h171,iter_t h171,h172,h173,h176,h177,h178,h179] <;> rfl) (gc_same (Nat.le_refl _))
       ·cases h
        exact stepO_out (by simp only [go_sem,seval,c107_0,St107_0,St107_0r,h171,iter_t h171,h172,h173,h176,h177,h178,h179,Ex107_0] <;> rfl)
      ·rcases cond_split h with ⟨h180,h⟩ | ⟨h180,h⟩
       ·cases h
        exact stepO_in (st':=⟨[(0,.str a0,false),(8,.ptr 0 0,false),(46,.bool false,false)],[.iter a0 (0 + (decodeA a0 0).2)]⟩) (by simp only [go_sem,seval,c107_0,St107_0,St107_0r,h171,iter_t h171,h172,h173,h176,h177,h178,h180] <;> rfl) (gc_same (Nat.le_refl _))
       ·cases h
        exact stepO_out (by simp only [go_sem,seval,c107_0,St107_0,St107_0r,h171,iter_t h171,h172,h173,h176,h177,h178,h180,Ex107_0] <;> rfl)
     ·rcases cond_split h with ⟨h181,h⟩ | ⟨h181,h⟩
      ·cases h
       exact stepO_in (st':=⟨[(0,.str a0,false),(8,.ptr 0 0,false),(46,.bool false,false)],[.iter a0 (0 + (decodeA a0 0).2)]⟩) (by simp only [go_sem,seval,c107_0,St107_0,St107_0r,h171,iter_t h171,h172,h173,h176,h177,h181] <;> rfl) (gc_same (Nat.le_refl _))
      ·cases h
       exact stepO_out (by simp only [go_sem,seval,c107_0,St107_0,St107_0r,h171,iter_t h171,h172,h173,h176,h177,h181,Ex107_0] <;> rfl)
    ·rcases cond_split h with ⟨h182,h⟩ | ⟨h182,h⟩
     ·rcases cond_split h with ⟨h183,h⟩ | ⟨h183,h⟩
      ·cases h
       exact stepO_out (by simp only [go_sem,seval,c107_0,St107_0,St107_0r,h171,iter_t h171,h172,h173,h176,h182,h183,Ex107_0] <;> rfl)
      ·cases h
       exact stepO_out (by simp only [go_sem,seval,c107_0,St107_0,St107_0r,h171,iter_t h171,h172,h173,h176,h182,h183,Ex107_0] <;> rfl)
     ·cases h
      exact stepO_out (by simp only [go_sem,seval,c107_0,St107_0,St107_0r,h171,iter_t h171,h172,h173,h176,h182,Ex107_0] <;> rfl)
  ·rcases cond_split h with ⟨h184,h⟩ | ⟨h184,h⟩
   ·rcases cond_split h with ⟨h185,h⟩ | ⟨h185,h⟩
    ·rcases cond_split h with ⟨h186,h⟩ | ⟨h186,h⟩
     ·rcases cond_split h with ⟨h187,h⟩ | ⟨h187,h⟩
      ·cases h
       exact stepO_in (st':=⟨[(0,.str a0,false),(8,.ptr 0 0,false),(46,.bool false,false)],[.iter a0 (0 + (decodeA a0 0).2)]⟩) (by simp only [go_sem,seval,c107_0,St107_0,St107_0r,h171,iter_t h171,h172,h184,h185,h186,h187] <;> rfl) (gc_same (Nat.le_refl _))
      ·cases h
       exact stepO_out (by simp only [go_sem,seval,c107_0,St107_0,St107_0r,h171,iter_t h171,h172,h184,h185,h186,h187,Ex107_0] <;> rfl)
     ·rcases cond_split h with ⟨h188,h⟩ | ⟨h188,h⟩
      ·cases h
       exact stepO_in (st':=⟨[(0,.str a0,false),(8,.ptr 0 0,false),(46,.bool false,false)],[.iter a0 (0 + (decodeA a0 0).2)]⟩) (by simp only [go_sem,seval,c107_0,St107_0,St107_0r,h171,iter_t h171,h172,h184,h185,h186,h188] <;> rfl) (gc_same (Nat.le_refl _))
      ·cases h
       exact stepO_out (by simp only [go_sem,seval,c107_0,St107_0,St107_0r,h171,iter_t h171,h172,h184,h185,h186,h188,Ex107_0] <;> rfl)
    ·rcases cond_split h with ⟨h189,h⟩ | ⟨h189,h⟩
     ·cases h
      exact stepO_in (st':=⟨[(0,.str a0,false),(8,.ptr 0 0,false),(46,.bool false,false)],[.iter a0 (0 + (decodeA a0 0).2)]⟩) (by simp only [go_sem,seval,c107_0,St107_0,St107_0r,h171,iter_t h171,h172,h184,h185,h189] <;> rfl) (gc_same (Nat.le_refl _))
     ·cases h
      exact stepO_out (by simp only [go_sem,seval,c107_0,St107_0,St107_0r,h171,iter_t h171,h172,h184,h185,h189,Ex107_0] <;> rfl)
   ·rcases cond_split h with ⟨h190,h⟩ | ⟨h190,h⟩
    ·rcases cond_split h with ⟨h191,h⟩ | ⟨h191,h⟩
     ·cases h
      exact stepO_out (by simp only [go_sem,seval,c107_0,St107_0,St107_0r,h171,iter_t h171,h172,h184,h190,h191,Ex107_0] <;> rfl)
     ·cases h
      exact stepO_out (by simp only [go_sem,seval,c107_0,St107_0,St107_0r,h171,iter_t h171,h172,h184,h190,h191,Ex107_0] <;> rfl)
    ·cases h
     exact stepO_out (by simp only [go_sem,seval,c107_0,St107_0,St107_0r,h171,iter_t h171,h172,h184,h190,Ex107_0] <;> rfl)
 ·cases h
  exact stepO_out (by simp only [go_sem,seval,c107_0,St107_0,St107_0r,h171,iter_f h171,Ex107_0] <;> rfl)
theorem b107_0r (a0:List UInt8) (s0:Nat) (r) (h:s107_0r a0 s0=some r):stepO pr c107_0 (St107_0 a0) (Ex107_0 a0) (some s0) r:=by
 unfold s107_0r at h
 rcases cond_split h with ⟨h130,h⟩ | ⟨h130,h⟩
 ·rcases cond_split h with ⟨h131,h⟩ | ⟨h131,h⟩
  ·rcases cond_split h with ⟨h132,h⟩ | ⟨h132,h⟩
   ·rcases cond_split h with ⟨h133,h⟩ | ⟨h133,h⟩
    ·rcases cond_split h with ⟨h134,h⟩ | ⟨h134,h⟩
     ·cases h
      exact stepO_in (st':=⟨[(0,.str a0,false),(8,.ptr 0 0,false),(46,.bool false,false)],[.iter a0 (s0 + (decodeA a0 s0).2)]⟩) (by simp only [go_sem,seval,c107_0,St107_0,St107_0r,h130,iter_t h130,h131,h132,h133,h134] <;> rfl) (gc_same (Nat.le_refl _))
     ·cases h
      exact stepO_in (st':=⟨[(0,.str a0,false),(8,.ptr 0 0,false),(46,.bool false,false)],[.iter a0 (s0 + (decodeA a0 s0).2)]⟩) (by simp only [go_sem,seval,c107_0,St107_0,St107_0r,h130,iter_t h130,h131,h132,h133,h134] <;> rfl) (gc_same (Nat.le_refl _))
    ·cases h
     exact stepO_in (st':=⟨[(0,.str a0,false),(8,.ptr 0 0,false),(46,.bool false,false)],[.iter a0 (s0 + (decodeA a0 s0).2)]⟩) (by simp only [go_sem,seval,c107_0,St107_0,St107_0r,h130,iter_t h130,h131,h132,h133] <;> rfl) (gc_same (Nat.le_refl _))
   ·rcases cond_split h with ⟨h135,h⟩ | ⟨h135,h⟩
    ·rcases cond_split h with ⟨h136,h⟩ | ⟨h136,h⟩
     ·rcases cond_split h with ⟨h137,h⟩ | ⟨h137,h⟩
      ·rcases cond_split h with ⟨h138,h⟩ | ⟨h138,h⟩
       ·cases h
        exact stepO_in (st':=⟨[(0,.str a0,false),(8,.ptr 0 0,false),(46,.bool false,false)],[.iter a0 (s0 + (decodeA a0 s0).2)]⟩) (by simp only [go_sem,seval,c107_0,St107_0,St107_0r,h130,iter_t h130,h131,h132,h135,h136,h137,h138] <;> rfl) (gc_same (Nat.le_refl _))
       ·rcases cond_split h with ⟨h139,h⟩ | ⟨h139,h⟩
        ·cases h
         exact stepO_out (by simp only [go_sem,seval,c107_0,St107_0,St107_0r,h130,iter_t h130,h131,h132,h135,h136,h137,h138,h139,Ex107_0] <;> rfl)
        ·cases h
         exact stepO_in (st':=⟨[(0,.str a0,false),(8,.ptr 0 0,false),(46,.bool false,false)],[.iter a0 (s0 + (decodeA a0 s0).2)]⟩) (by simp only [go_sem,seval,c107_0,St107_0,St107_0r,h130,iter_t h130,h131,h132,h135,h136,h137,h138,h139] <;> rfl) (gc_same (Nat.le_refl _))
      ·rcases cond_split h with ⟨h140,h⟩ | ⟨h140,h⟩
       ·cases h
        exact stepO_in (st':=⟨[(0,.str a0,false),(8,.ptr 0 0,false),(46,.bool false,false)],[.iter a0 (s0 + (decodeA a0 s0).2)]⟩) (by simp only [go_sem,seval,c107_0,St107_0,St107_0r,h130,iter_t h130,h131,h132,h135,h136,h137,h140] <;> rfl) (gc_same (Nat.le_refl _))
       ·rcases cond_split h with ⟨h141,h⟩ | ⟨h141,h⟩
        ·cases h
         exact stepO_out (by simp only [go_sem,seval,c107_0,St107_0,St107_0r,h130,iter_t h130,h131,h132,h135,h136,h137,h140,h141,Ex107_0] <;> rfl)
        ·rcases cond_split h with ⟨h142,h⟩ | ⟨h142,h⟩
         ·cases h
          exact stepO_in (st':=⟨[(0,.str a0,false),(8,.ptr 0 0,false),(46,.bool false,false)],[.iter a0 (s0 + (decodeA a0 s0).2)]⟩) (by simp only [go_sem,seval,c107_0,St107_0,St107_0r,h130,iter_t h130,h131,h132,h135,h136,h137,h140,h141,h142] <;> rfl) (gc_same (Nat.le_refl _))
         ·cases h
          exact stepO_out (by simp only [go_sem,seval,c107_0,St107_0,St107_0r,h130,iter_t h130,h131,h132,h135,h136,h137,h140,h141,h142,Ex107_0] <;> rfl)
     ·rcases cond_split h with ⟨h143,h⟩ | ⟨h143,h⟩
      ·cases h
       exact stepO_in (st':=⟨[(0,.str a0,false),(8,.ptr 0 0,false),(46,.bool false,false)],[.iter a0 (s0 + (decodeA a0 s0).2)]⟩) (by simp only [go_sem,seval,c107_0,St107_0,St107_0r,h130,iter_t h130,h131,h132,h135,h136,h143] <;> rfl) (gc_same (Nat.le_refl _))
      ·rcases cond_split h with ⟨h144,h⟩ | ⟨h144,h⟩
       ·cases h
        exact stepO_out (by simp only [go_sem,seval,c107_0,St107_0,St107_0r,h130,iter_t h130,h131,h132,h135,h136,h143,h144,Ex107_0] <;> rfl)
       ·rcases cond_split h with ⟨h145,h⟩ | ⟨h145,h⟩
        ·cases h
         exact stepO_in (st':=⟨[(0,.str a0,false),(8,.ptr 0 0,false),(46,.bool false,false)],[.iter a0 (s0 + (decodeA a0 s0).2)]⟩) (by simp only [go_sem,seval,c107_0,St107_0,St107_0r,h130,iter_t h130,h131,h132,h135,h136,h143,h144,h145] <;> rfl) (gc_same (Nat.le_refl _))
        ·cases h
         exact stepO_out (by simp only [go_sem,seval,c107_0,St107_0,St107_0r,h130,iter_t h130,h131,h132,h135,h136,h143,h144,h145,Ex107_0] <;> rfl)
    ·rcases cond_split h with ⟨h146,h⟩ | ⟨h146,h⟩
     ·rcases cond_split h with ⟨h147,h⟩ | ⟨h147,h⟩
      ·rcases cond_split h with ⟨h148,h⟩ | ⟨h148,h⟩
       ·cases h
        exact stepO_out (by simp only [go_sem,seval,c107_0,St107_0,St107_0r,h130,iter_t h130,h131,h132,h135,h146,h147,h148,Ex107_0] <;> rfl)
       ·cases h
        exact stepO_in (st':=⟨[(0,.str a0,false),(8,.ptr 0 0,false),(46,.bool false,false)],[.iter a0 (s0 + (decodeA a0 s0).2)]⟩) (by simp only [go_sem,seval,c107_0,St107_0,St107_0r,h130,iter_t h130,h131,h132,h135,h146,h147,h148] <;> rfl) (gc_same (Nat.le_refl _))
      ·rcases cond_split h with ⟨h149,h⟩ | ⟨h149,h⟩
       ·cases h
        exact stepO_out (by simp only [go_sem,seval,c107_0,St107_0,St107_0r,h130,iter_t h130,h131,h132,h135,h146,h147,h149,Ex107_0] <;> rfl)
       ·rcases cond_split h with ⟨h150,h⟩ | ⟨h150,h⟩
        ·cases h
         exact stepO_in (st':=⟨[(0,.str a0,false),(8,.ptr 0 0,false),(46,.bool false,false)],[.iter a0 (s0 + (decodeA a0 s0).2)]⟩) (by simp only [go_sem,seval,c107_0,St107_0,St107_0r,h130,iter_t h130,h131,h132,h135,h146,h147,h149,h150] <;> rfl) (gc_same (Nat.le_refl _))
        ·cases h
         exact stepO_out (by simp only [go_sem,seval,c107_0,St107_0,St107_0r,h130,iter_t h130,h131,h132,h135,h146,h147,h149,h150,Ex107_0] <;> rfl)
     ·rcases cond_split h with ⟨h151,h⟩ | ⟨h151,h⟩
      ·cases h
       exact stepO_out (by simp only [go_sem,seval,c107_0,St107_0,St107_0r,h130,iter_t h130,h131,h132,h135,h146,h151,Ex107_0] <;> rfl)
      ·rcases cond_split h with ⟨h152,h⟩ | ⟨h152,h⟩
       ·cases h
        exact stepO_in (st':=⟨[(0,.str a0,false),(8,.ptr 0 0,false),(46,.bool false,false)],[.iter a0 (s0 + (decodeA a0 s0).2)]⟩) (by simp only [go_sem,seval,c107_0,St107_0,St107_0r,h130,iter_t h130,h131,h132,h135,h146,h151,h152] <;> rfl) (gc_same (Nat.le_refl _))
       ·cases h
        exact stepO_out (by simp only [go_sem,seval,c107_0,St107_0,St107_0r,h130,iter_t h130,h131,h132,h135,h146,h151,h152,Ex107_0] <;> rfl)
  ·rcases cond_split h with ⟨h153,h⟩ | ⟨h153,h⟩
   ·rcases cond_split h with ⟨h154,h⟩ | ⟨h154,h⟩
    ·rcases cond_split h with ⟨h155,h⟩ | ⟨h155,h⟩
     ·rcases cond_split h with ⟨h156,h⟩ | ⟨h156,h⟩
      ·cases h
       exact stepO_in (st':=⟨[(0,.str a0,false),(8,.ptr 0 0,false),(46,.bool false,false)],[.iter a0 (s0 + (decodeA a0 s0).2)]⟩) (by simp only [go_sem,seval,c107_0,St107_0,St107_0r,h130,iter_t h130,h131,h153,h154,h155,h156] <;> rfl) (gc_same (Nat.le_refl _))
      ·rcases cond_split h with ⟨h157,h⟩ | ⟨h157,h⟩
       ·cases h
        exact stepO_out (by simp only [go_sem,seval,c107_0,St107_0,St107_0r,h130,iter_t h130,h131,h153,h154,h155,h156,h157,Ex107_0] <;> rfl)
       ·cases h
        exact stepO_in (st':=⟨[(0,.str a0,false),(8,.ptr 0 0,false),(46,.bool false,false)],[.iter a0 (s0 + (decodeA a0 s0).2)]⟩) (by simp only [go_sem,seval,c107_0,St107_0,St107_0r,h130,iter_t h130,h131,h153,h154,h155,h156,h157] <;> rfl) (gc_same (Nat.le_refl _))
     ·rcases cond_split h with ⟨h158,h⟩ | ⟨h158,h⟩
      ·cases h
       exact stepO_in (st':=⟨[(0,.str a0,false),(8,.ptr 0 0,false),(46,.bool false,false)],[.iter a0 (s0 + (decodeA a0 s0).2)]⟩) (by simp only [go_sem,seval,c107_0,St107_0,St107_0r,h130,iter_t h130,h131,h153,h154,h155,h158] <;> rfl) (gc_same (Nat.le_refl _))
      ·rcases cond_split h with ⟨h159,h⟩ | ⟨h159,h⟩
       ·cases h
        exact stepO_out (by simp only [go_sem,seval,c107_0,St107_0,St107_0r,h130,iter_t h130,h131,h153,h154,h155,h158,h159,Ex107_0] <;> rfl)
       ·rcases cond_split h with ⟨h160,h⟩ | ⟨h160,h⟩
        ·cases h
         exact stepO_in (st':=⟨[(0,.str a0,false),(8,.ptr 0 0,false),(46,.bool false,false)],[.iter a0 (s0 + (decodeA a0 s0).2)]⟩) (by simp only [go_sem,seval,c107_0,St107_0,St107_0r,h130,iter_t h130,h131,h153,h154,h155,h158,h159,h160] <;> rfl) (gc_same (Nat.le_refl _))
        ·cases h
         exact stepO_out (by simp only [go_sem,seval,c107_0,St107_0,St107_0r,h130,iter_t h130,h131,h153,h154,h155,h158,h159,h160,Ex107_0] <;> rfl)
    ·rcases cond_split h with ⟨h161,h⟩ | ⟨h161,h⟩
     ·cases h
      exact stepO_in (st':=⟨[(0,.str a0,false),(8,.ptr 0 0,false),(46,.bool false,false)],[.iter a0 (s0 + (decodeA a0 s0).2)]⟩) (by simp only [go_sem,seval,c107_0,St107_0,St107_0r,h130,iter_t h130,h131,h153,h154,h161] <;> rfl) (gc_same (Nat.le_refl _))
     ·rcases cond_split h with ⟨h162,h⟩ | ⟨h162,h⟩
      ·cases h
       exact stepO_out (by simp only [go_sem,seval,c107_0,St107_0,St107_0r,h130,iter_t h130,h131,h153,h154,h161,h162,Ex107_0] <;> rfl)
      ·rcases cond_split h with ⟨h163,h⟩ | ⟨h163,h⟩
       ·cases h
        exact stepO_in (st':=⟨[(0,.str a0,false),(8,.ptr 0 0,false),(46,.bool false,false)],[.iter a0 (s0 + (decodeA a0 s0).2)]⟩) (by simp only [go_sem,seval,c107_0,St107_0,St107_0r,h130,iter_t h130,h131,h153,h154,h161,h162,h163] <;> rfl) (gc_same (Nat.le_refl _))
       ·cases h
        exact stepO_out (by simp only [go_sem,seval,c107_0,St107_0,St107_0r,h130,iter_t h130,h131,h153,h154,h161,h162,h163,Ex107_0] <;> rfl)
   ·rcases cond_split h with ⟨h164,h⟩ | ⟨h164,h⟩
    ·rcases cond_split h with ⟨h165,h⟩ | ⟨h165,h⟩
     ·rcases cond_split h with ⟨h166,h⟩ | ⟨h166,h⟩
      ·cases h
       exact stepO_out (by simp only [go_sem,seval,c107_0,St107_0,St107_0r,h130,iter_t h130,h131,h153,h164,h165,h166,Ex107_0] <;> rfl)
      ·cases h
       exact stepO_in (st':=⟨[(0,.str a0,false),(8,.ptr 0 0,false),(46,.bool false,false)],[.iter a0 (s0 + (decodeA a0 s0).2)]⟩) (by simp only [go_sem,seval,c107_0,St107_0,St107_0r,h130,iter_t h130,h131,h153,h164,h165,h166] <;> rfl) (gc_same (Nat.le_refl _))
     ·rcases cond_split h with ⟨h167,h⟩ | ⟨h167,h⟩
      ·cases h
       exact stepO_out (by simp only [go_sem,seval,c107_0,St107_0,St107_0r,h130,iter_t h130,h131,h153,h164,h165,h167,Ex107_0] <;> rfl)
      ·rcases cond_split h with ⟨h168,h⟩ | ⟨h168,h⟩
       ·cases h
        exact stepO_in (st':=⟨[(0,.str a0,false),(8,.ptr 0 0,false),(46,.bool false,false)],[.iter a0 (s0 + (decodeA a0 s0).2)]⟩) (by simp only [go_sem,seval,c107_0,St107_0,St107_0r,h130,iter_t h130,h131,h153,h164,h165,h167,h168] <;> rfl) (gc_same (Nat.le_refl _))
       ·cases h
        exact stepO_out (by simp only [go_sem,seval,c107_0,St107_0,St107_0r,h130,iter_t h130,h131,h153,h164,h165,h167,h168,Ex107_0] <;> rfl)
    ·rcases cond_split h with ⟨h169,h⟩ | ⟨h169,h⟩
     ·cases h
      exact stepO_out (by simp only [go_sem,seval,c107_0,St107_0,St107_0r,h130,iter_t h130,h131,h153,h164,h169,Ex107_0] <;> rfl)
     ·rcases cond_split h with ⟨h170,h⟩ | ⟨h170,h⟩
      ·cases h
       exact stepO_in (st':=⟨[(0,.str a0,false),(8,.ptr 0 0,false),(46,.bool false,false)],[.iter a0 (s0 + (decodeA a0 s0).2)]⟩) (by simp only [go_sem,seval,c107_0,St107_0,St107_0r,h130,iter_t h130,h131,h153,h164,h169,h170] <;> rfl) (gc_same (Nat.le_refl _))
      ·cases h
       exact stepO_out (by simp only [go_sem,seval,c107_0,St107_0,St107_0r,h130,iter_t h130,h131,h153,h164,h169,h170,Ex107_0] <;> rfl)
 ·cases h
  exact stepO_out (by simp only [go_sem,seval,c107_0,St107_0,St107_0r,h130,iter_f h130,Ex107_0] <;> rfl)
theorem b107_0 (a0:List UInt8):∀ (x:Option (Nat)) (r) (h:s107_0 a0 x=some r),stepO pr c107_0 (St107_0 a0) (Ex107_0 a0) x r
 | none,r,h=>b107_0z a0 r h
 | some x,r,h=>b107_0r a0 x r h
theorem l107_0 (a0:List UInt8) {s0:Option (Nat)} {d} (h:itO (s107_0 a0) s0=some d):X pr (.loop c107_0) (St107_0 a0 s0)=some (Ex107_0 a0 d):=X_itO (b107_0 a0) (fun d=>by rcases d with d|d <;> (intro hh; cases hh)) h
noncomputable def f107 (a0:List UInt8):Option Bool:=
 obind (itO (s107_0 a0) none) fun d192=>match d192 with
  | .inl d194=>
   some false
  | .inr d195=>
   cond (decide (a0=[]))
    (some false)
    (some (decide ((a0.length:Int)≤24)))
theorem W107 {a0:List UInt8} {r} (h:f107 a0=some r):callIso pr (X pr) 107 [.str a0]=some (.bool r,false):=by
 unfold f107 at h
 obtain ⟨d192,h193,h⟩:=obind_some h
 rcases d192 with d194 | d195
 ·have wh193:X pr (.loop c107_0) ⟨[(0,.str a0,false),(8,.ptr 0 0,false)],[.iter a0 0]⟩=some (.ret,⟨[(2,.bool false,false)],[.iter a0 d194]⟩):=l107_0 a0 h193
  have hr:false=r:=Option.some.inj h
  subst hr
  refine iso_F rfl ?_ (fun _=>by first | rfl | simp only [go_sem,seval]) (by first | rfl | simp only [go_sem,seval])
  rw [callFn_at (show pr.fns 107=some c107 from rfl) (by simp)]
  simp only [go_sem,seval,c107,wh193]
  exact ⟨_,rfl⟩
 ·have wh193:X pr (.loop c107_0) ⟨[(0,.str a0,false),(8,.ptr 0 0,false)],[.iter a0 0]⟩=some (.exit 0,⟨[(0,.str a0,false),(8,.ptr 0 0,false),(9,.tup [.bool false],false),(10,.bool false,false)],[.iter a0 d195]⟩):=l107_0 a0 h193
  rcases cond_split h with ⟨h196,h⟩ | ⟨h196,h⟩
  ·have hr:false=r:=Option.some.inj h
   subst hr
   refine iso_F rfl ?_ (fun _=>by first | rfl | simp only [go_sem,seval]) (by first | rfl | simp only [go_sem,seval])
   rw [callFn_at (show pr.fns 107=some c107 from rfl) (by simp)]
   simp only [go_sem,seval,c107,wh193,h196]
   exact ⟨_,rfl⟩
  ·have hr:decide ((a0.length:Int)≤24)=r:=Option.some.inj h
   subst hr
   refine iso_F rfl ?_ (fun _=>by first | rfl | simp only [go_sem,seval]) (by first | rfl | simp only [go_sem,seval])
   rw [callFn_at (show pr.fns 107=some c107 from rfl) (by simp)]
   simp only [go_sem,seval,c107,wh193,h196]
   exact ⟨_,rfl⟩
noncomputable def f194 (a0:Bool) (a1:Int):Option Int:=
 cond a0
  (some a1)
  (some 0)
theorem W194 {a0:Bool} {a1:Int} {r} (h:f194 a0 a1=some r):callIso pr (X pr) 194 [.bool a0,.int .i64 a1]=some (.int .i64 r,false):=by
 unfold f194 at h
 rcases cond_split h with ⟨h1,h⟩ | ⟨h1,h⟩
 ·have hr:a1=r:=Option.some.inj h
  subst hr
  refine iso_F rfl ?_ (fun _=>by first | rfl | simp only [go_sem,seval]) (by first | rfl | simp only [go_sem,seval])
  rw [callFn_at (show pr.fns 194=some c194 from rfl) (by simp)]
  simp only [go_sem,seval,c194,h1]
  exact ⟨_,rfl⟩
 ·have hr:0=r:=Option.some.inj h
  subst hr
  refine iso_F rfl ?_ (fun _=>by first | rfl | simp only [go_sem,seval]) (by first | rfl | simp only [go_sem,seval])
  rw [callFn_at (show pr.fns 194=some c194 from rfl) (by simp)]
  simp only [go_sem,seval,c194,h1]
  exact ⟨_,rfl⟩
noncomputable def f195 (a0:Int) (a1:Int) (a2:Int):Option Int:=
 cond (decide (a0 < a1))
  (obind (f194 true 3) fun v2=>
  some v2)
  (obind (f194 (decide (a2 < a0)) 3) fun v4=>
  some v4)
theorem W195 {a0:Int} {a1:Int} {a2:Int} {r} (h:f195 a0 a1 a2=some r):callIso pr (X pr) 195 [.int .i64 a0,.int .i64 a1,.int .i64 a2]=some (.int .i64 r,false):=by
 unfold f195 at h
 rcases cond_split h with ⟨h1,h⟩ | ⟨h1,h⟩
 ·obtain ⟨v2,h3,h⟩:=obind_some h
  have hr:v2=r:=Option.some.inj h
  subst hr
  refine iso_F rfl ?_ (fun _=>by first | rfl | simp only [go_sem,seval]) (by first | rfl | simp only [go_sem,seval])
  rw [callFn_at (show pr.fns 195=some c195 from rfl) (by simp)]
  simp only [go_sem,seval,c195,h1,W194 h3]
  exact ⟨_,rfl⟩
 ·obtain ⟨v4,h5,h⟩:=obind_some h
  have wh5:callIso pr (X pr) 194 [.bool (decide (a2 < a0)),.int .i64 3]=some (.int .i64 v4,false):=W194 h5
  have hr:v4=r:=Option.some.inj h
  subst hr
  refine iso_F rfl ?_ (fun _=>by first | rfl | simp only [go_sem,seval]) (by first | rfl | simp only [go_sem,seval])
  rw [callFn_at (show pr.fns 195=some c195 from rfl) (by simp)]
  simp only [go_sem,seval,c195,h1,wh5]
  exact ⟨_,rfl⟩
noncomputable def s171_0 (a0:Option (List Int)) (s0:Int):Option (Int ⊕ (Int ⊕ Int)):=
 cond (decide (s0 < ((a0.getD []).length:Int)))
  (obind (idxO (a0.getD []) s0) fun v10=>
  cond (decide (v10=0))
   (some (.inl (wrapF .i64 (s0 + 1))))
   (some (.inr (.inl v10))))
  (some (.inr (.inr s0)))
def St171_0 (a0:Option (List Int)) (s0:Int):ASt:=⟨[(5,sl 1 vint a0,false),(6,.int .i64 ((a0.getD []).length:Int),false),(7,.int .i64 s0,false)],[]⟩
def Ex171_0 (a0:Option (List Int)):Int ⊕ Int→AExit × ASt
 | .inl d=>(.ret,⟨[(2,.int .i64 d,false)],[]⟩)
 | .inr d=>(.exit 0,⟨[(5,sl 1 vint a0,false),(6,.int .i64 ((a0.getD []).length:Int),false),(7,.int .i64 d,false),(8,.bool false,false)],[]⟩)
theorem b171_0 (a0:Option (List Int)) (s0:Int) (r) (h:s171_0 a0 s0=some r):stepO pr c171_0 (St171_0 a0) (Ex171_0 a0) s0 r:=by
 unfold s171_0 at h
 rcases cond_split h with ⟨h9,h⟩ | ⟨h9,h⟩
 ·obtain ⟨v10,h11,h⟩:=obind_some h
  rcases cond_split h with ⟨h12,h⟩ | ⟨h12,h⟩
  ·cases h
   exact stepO_in (st':=⟨[(5,sl 1 vint a0,false),(6,.int .i64 ((a0.getD []).length:Int),false),(7,.int .i64 (wrapF .i64 (s0 + 1)),false)],[]⟩) (by simp only [go_sem,seval,c171_0,St171_0,h9,idxR_O h11,h12] <;> rfl) (gc_same (Nat.le_refl _))
  ·cases h
   exact stepO_out (by simp only [go_sem,seval,c171_0,St171_0,h9,idxR_O h11,h12,Ex171_0] <;> rfl)
 ·cases h
  exact stepO_out (by simp only [go_sem,seval,c171_0,St171_0,h9,Ex171_0] <;> rfl)
theorem l171_0 (a0:Option (List Int)) {s0:Int} {d} (h:itO (s171_0 a0) s0=some d):X pr (.loop c171_0) (St171_0 a0 s0)=some (Ex171_0 a0 d):=X_itO (b171_0 a0) (fun d=>by rcases d with d|d <;> (intro hh; cases hh)) h
noncomputable def f171 (a0:Option (List Int)):Option Int:=
 obind (itO (s171_0 a0) 0) fun d13=>match d13 with
  | .inl d15=>
   some d15
  | .inr d16=>
   some 0
theorem W171 {a0:Option (List Int)} {r} (h:f171 a0=some r):callIso pr (X pr) 171 [sl 1 vint a0]=some (.int .i64 r,false):=by
 unfold f171 at h
 obtain ⟨d13,h14,h⟩:=obind_some h
 rcases d13 with d15 | d16
 ·have wh14:X pr (.loop c171_0) ⟨[(5,sl 1 vint a0,false),(6,.int .i64 ((a0.getD []).length:Int),false),(7,.int .i64 0,false)],[]⟩=some (.ret,⟨[(2,.int .i64 d15,false)],[]⟩):=l171_0 a0 h14
  have hr:d15=r:=Option.some.inj h
  subst hr
  refine iso_F rfl ?_ (fun _=>by first | rfl | simp only [go_sem,seval]) (by first | rfl | simp only [go_sem,seval])
  rw [callFn_at (show pr.fns 171=some c171 from rfl) (by simp)]
  simp only [go_sem,seval,c171,wh14]
  exact ⟨_,rfl⟩
 ·have wh14:X pr (.loop c171_0) ⟨[(5,sl 1 vint a0,false),(6,.int .i64 ((a0.getD []).length:Int),false),(7,.int .i64 0,false)],[]⟩=some (.exit 0,⟨[(5,sl 1 vint a0,false),(6,.int .i64 ((a0.getD []).length:Int),false),(7,.int .i64 d16,false),(8,.bool false,false)],[]⟩):=l171_0 a0 h14
  have hr:0=r:=Option.some.inj h
  subst hr
  refine iso_F rfl ?_ (fun _=>by first | rfl | simp only [go_sem,seval]) (by first | rfl | simp only [go_sem,seval])
  rw [callFn_at (show pr.fns 171=some c171 from rfl) (by simp)]
  simp only [go_sem,seval,c171,wh14]
  exact ⟨_,rfl⟩
noncomputable def f172 (a0:Int):Option Int:=
 obind (f195 a0 1 8) fun v1=>
 some v1
theorem W172 {a0:Int} {r} (h:f172 a0=some r):callIso pr (X pr) 172 [.int .i64 a0]=some (.int .i64 r,false):=by
 unfold f172 at h
 obtain ⟨v1,h2,h⟩:=obind_some h
 have hr:v1=r:=Option.some.inj h
 subst hr
 refine iso_F rfl ?_ (fun _=>by first | rfl | simp only [go_sem,seval]) (by first | rfl | simp only [go_sem,seval])
 rw [callFn_at (show pr.fns 172=some c172 from rfl) (by simp)]
 simp only [go_sem,seval,c172,W195 h2]
 exact ⟨_,rfl⟩
noncomputable def f122 (a0:Int):Option Int:=
 obind (f109 a0 1 8) fun v1=>
 some v1
theorem W122 {a0:Int} {r} (h:f122 a0=some r):callIso pr (X pr) 122 [.int .i64 a0]=some (.int .i64 r,false):=by
 unfold f122 at h
 obtain ⟨v1,h2,h⟩:=obind_some h
 have hr:v1=r:=Option.some.inj h
 subst hr
 refine iso_F rfl ?_ (fun _=>by first | rfl | simp only [go_sem,seval]) (by first | rfl | simp only [go_sem,seval])
 rw [callFn_at (show pr.fns 122=some c122 from rfl) (by simp)]
 simp only [go_sem,seval,c122,W109 h2]
 exact ⟨_,rfl⟩
noncomputable def s158_0 (a0:Option (List GEl)) (s0:Int):Option (Int ⊕ ((Int × (List UInt8) × Int × Int) ⊕ (Int × (List UInt8) × Int × Int) ⊕ (Int × (List UInt8) × Int × Int) ⊕ (Int × (List UInt8) × Int × Int) ⊕ (Int × (List UInt8) × Int × Int) ⊕ Int)):=
 cond (decide (s0 < ((a0.getD []).length:Int)))
  (obind (idxO (a0.getD []) s0) fun v151=>
  cond (decide (v151.kind=([98,108,111,99,107]:List UInt8)))
   (obind (f194 false 13) fun v154=>
   obind (f195 v151.a 0 8) fun v156=>
   obind (f195 v151.b 0 8) fun v158=>
   cond (decide (v151.a=0))
    (obind (f194 (decide (v151.b=0)) 6) fun v161=>
    obind (f171 (some [v154,v156,v158,v161])) fun v163=>
    cond (decide (v163=0))
     (some (.inl (wrapF .i64 (s0 + 1))))
     (some (.inr (.inl (v163,v151.kind,v151.a,v151.b)))))
    (obind (f194 false 6) fun v166=>
    obind (f171 (some [v154,v156,v158,v166])) fun v168=>
    cond (decide (v168=0))
     (some (.inl (wrapF .i64 (s0 + 1))))
     (some (.inr (.inl (v168,v151.kind,v151.a,v151.b))))))
   (cond (decide (v151.kind=([115,101,114,105,101,115]:List UInt8)))
    (obind (f194 false 13) fun v172=>
    obind (f195 v151.a 0 8) fun v174=>
    obind (f195 v151.b 0 8) fun v176=>
    obind (f194 false 6) fun v178=>
    obind (f171 (some [v172,v174,v176,v178])) fun v180=>
    cond (decide (v180=0))
     (some (.inl (wrapF .i64 (s0 + 1))))
     (some (.inr (.inr (.inl (v180,v151.kind,v151.a,v151.b))))))
    (cond (decide (v151.kind=([115,104,117,110,116]:List UInt8)))
     (obind (f194 false 13) fun v184=>
     obind (f195 v151.a 0 8) fun v186=>
     obind (f195 v151.b 0 8) fun v188=>
     obind (f194 false 6) fun v190=>
     obind (f171 (some [v184,v186,v188,v190])) fun v192=>
     cond (decide (v192=0))
      (some (.inl (wrapF .i64 (s0 + 1))))
      (some (.inr (.inr (.inr (.inl (v192,v151.kind,v151.a,v151.b)))))))
     (cond (decide (v151.kind=([116,114,97,112]:List UInt8)))
      (obind (f194 false 13) fun v196=>
      obind (f195 v151.a 0 8) fun v198=>
      obind (f195 v151.b 0 8) fun v200=>
      cond (decide (v151.a=0))
       (obind (f194 (decide (v151.b=0)) 6) fun v203=>
       obind (f171 (some [v196,v198,v200,v203])) fun v205=>
       cond (decide (v205=0))
        (some (.inl (wrapF .i64 (s0 + 1))))
        (some (.inr (.inr (.inr (.inr (.inl (v205,v151.kind,v151.a,v151.b))))))))
       (obind (f194 false 6) fun v208=>
       obind (f171 (some [v196,v198,v200,v208])) fun v210=>
       cond (decide (v210=0))
        (some (.inl (wrapF .i64 (s0 + 1))))
        (some (.inr (.inr (.inr (.inr (.inl (v210,v151.kind,v151.a,v151.b)))))))))
      (obind (f194 true 13) fun v213=>
      obind (f195 v151.a 0 8) fun v215=>
      obind (f195 v151.b 0 8) fun v217=>
      obind (f194 false 6) fun v219=>
      obind (f171 (some [v213,v215,v217,v219])) fun v221=>
      cond (decide (v221=0))
       (some (.inl (wrapF .i64 (s0 + 1))))
       (some (.inr (.inr (.inr (.inr (.inr (.inl (v221,v151.kind,v151.a,v151.b)))))))))))))
  (some (.inr (.inr (.inr (.inr (.inr (.inr s0)))))))
def St158_0 (a0:Option (List GEl)) (s0:Int):ASt:=⟨[(11,sl 3 vel a0,false),(12,.int .i64 ((a0.getD []).length:Int),false),(13,.int .i64 s0,false)],[]⟩
def Ex158_0 (a0:Option (List GEl)):(Int × (List UInt8) × Int × Int) ⊕ (Int × (List UInt8) × Int × Int) ⊕ (Int × (List UInt8) × Int × Int) ⊕ (Int × (List UInt8) × Int × Int) ⊕ (Int × (List UInt8) × Int × Int) ⊕ Int→AExit × ASt
 | .inl d=>(.ret,⟨[(2,.int .i64 d.1,false)],[.cells [(.str d.2.1,false),(.int .i64 d.2.2.1,false),(.int .i64 d.2.2.2,false)],.map kmap193,.cells [(.str ([116,114,97,112]:List UInt8),false),(.bool true,false),(.fn (.func 218) [] [],false)]]⟩)
 | .inr (.inl d)=>(.ret,⟨[(2,.int .i64 d.1,false)],[.cells [(.str d.2.1,false),(.int .i64 d.2.2.1,false),(.int .i64 d.2.2.2,false)],.map kmap193,.cells [(.str ([115,104,117,110,116]:List UInt8),false),(.bool false,false),(.fn (.func 219) [] [],false)]]⟩)
 | .inr (.inr (.inl d))=>(.ret,⟨[(2,.int .i64 d.1,false)],[.cells [(.str d.2.1,false),(.int .i64 d.2.2.1,false),(.int .i64 d.2.2.2,false)],.map kmap193,.cells [(.str ([115,101,114,105,101,115]:List UInt8),false),(.bool false,false),(.fn (.func 220) [] [],false)]]⟩)
 | .inr (.inr (.inr (.inl d)))=>(.ret,⟨[(2,.int .i64 d.1,false)],[.cells [(.str d.2.1,false),(.int .i64 d.2.2.1,false),(.int .i64 d.2.2.2,false)],.map kmap193,.cells [(.str ([98,108,111,99,107]:List UInt8),false),(.bool true,false),(.fn (.func 221) [] [],false)]]⟩)
 | .inr (.inr (.inr (.inr (.inl d))))=>(.ret,⟨[(2,.int .i64 d.1,false)],[.cells [(.str d.2.1,false),(.int .i64 d.2.2.1,false),(.int .i64 d.2.2.2,false)],.map kmap193,.cells [(.str [],false),(.bool false,false),(.nilfn,false)]]⟩)
 | .inr (.inr (.inr (.inr (.inr d))))=>(.exit 0,⟨[(11,sl 3 vel a0,false),(12,.int .i64 ((a0.getD []).length:Int),false),(13,.int .i64 d,false),(14,.bool false,false)],[]⟩)
theorem b158_0 (a0:Option (List GEl)) (s0:Int) (r) (h:s158_0 a0 s0=some r):stepO pr c158_0 (St158_0 a0) (Ex158_0 a0) s0 r:=by
 unfold s158_0 at h
 rcases cond_split h with ⟨h150,h⟩ | ⟨h150,h⟩
 ·obtain ⟨v151,h152,h⟩:=obind_some h
  rcases cond_split h with ⟨h153,h⟩ | ⟨h153,h⟩
  ·obtain ⟨v154,h155,h⟩:=obind_some h
   obtain ⟨v156,h157,h⟩:=obind_some h
   have wh157:callIso pr (X pr) 195 [.int .i64 v151.a,.int .i64 0,.int .i64 8]=some (.int .i64 v156,false):=W195 h157
   obtain ⟨v158,h159,h⟩:=obind_some h
   have wh159:callIso pr (X pr) 195 [.int .i64 v151.b,.int .i64 0,.int .i64 8]=some (.int .i64 v158,false):=W195 h159
   rcases cond_split h with ⟨h160,h⟩ | ⟨h160,h⟩
   ·obtain ⟨v161,h162,h⟩:=obind_some h
    have wh162:callIso pr (X pr) 194 [.bool (decide (v151.b=0)),.int .i64 6]=some (.int .i64 v161,false):=W194 h162
    obtain ⟨v163,h164,h⟩:=obind_some h
    have wh164:callIso pr (X pr) 171 [.list false 1 [.int .i64 v154,.int .i64 v156,.int .i64 v158,.int .i64 v161]]=some (.int .i64 v163,false):=W171 h164
    rcases cond_split h with ⟨h165,h⟩ | ⟨h165,h⟩
    ·cases h
     exact stepO_in (st':=⟨[(11,sl 3 vel a0,false),(12,.int .i64 ((a0.getD []).length:Int),false),(13,.int .i64 (wrapF .i64 (s0 + 1)),false)],[]++[.cells [(.str v151.kind,false),(.int .i64 v151.a,false),(.int .i64 v151.b,false)],.map kmap193,.cells [(.str ([116,114,97,112]:List UInt8),false),(.bool true,false),(.fn (.func 218) [] [],false)]]⟩) (by simp only [go_sem,seval,c158_0,St158_0,h150,idxR_O h152,h153,kind0 h153,W194 h155,wh157,wh159,h160,wh162,wh164,h165] <;> rfl) (gc_over rfl rfl (by first | simp only [go_sem,seval,St158_0] | rfl) (by first | simp only [go_sem,seval,St158_0] | rfl))
    ·cases h
     exact stepO_out (by simp only [go_sem,seval,c158_0,St158_0,h150,idxR_O h152,h153,kind0 h153,W194 h155,wh157,wh159,h160,wh162,wh164,h165,Ex158_0] <;> rfl)
   ·obtain ⟨v166,h167,h⟩:=obind_some h
    obtain ⟨v168,h169,h⟩:=obind_some h
    have wh169:callIso pr (X pr) 171 [.list false 1 [.int .i64 v154,.int .i64 v156,.int .i64 v158,.int .i64 v166]]=some (.int .i64 v168,false):=W171 h169
    rcases cond_split h with ⟨h170,h⟩ | ⟨h170,h⟩
    ·cases h
     exact stepO_in (st':=⟨[(11,sl 3 vel a0,false),(12,.int .i64 ((a0.getD []).length:Int),false),(13,.int .i64 (wrapF .i64 (s0 + 1)),false)],[]++[.cells [(.str v151.kind,false),(.int .i64 v151.a,false),(.int .i64 v151.b,false)],.map kmap193,.cells [(.str ([116,114,97,112]:List UInt8),false),(.bool true,false),(.fn (.func 218) [] [],false)]]⟩) (by simp only [go_sem,seval,c158_0,St158_0,h150,idxR_O h152,h153,kind0 h153,W194 h155,wh157,wh159,h160,W194 h167,wh169,h170] <;> rfl) (gc_over rfl rfl (by first | simp only [go_sem,seval,St158_0] | rfl) (by first | simp only [go_sem,seval,St158_0] | rfl))
    ·cases h
     exact stepO_out (by simp only [go_sem,seval,c158_0,St158_0,h150,idxR_O h152,h153,kind0 h153,W194 h155,wh157,wh159,h160,W194 h167,wh169,h170,Ex158_0] <;> rfl)
  ·rcases cond_split h with ⟨h171,h⟩ | ⟨h171,h⟩
   ·obtain ⟨v172,h173,h⟩:=obind_some h
    obtain ⟨v174,h175,h⟩:=obind_some h
    have wh175:callIso pr (X pr) 195 [.int .i64 v151.a,.int .i64 0,.int .i64 8]=some (.int .i64 v174,false):=W195 h175
    obtain ⟨v176,h177,h⟩:=obind_some h
    have wh177:callIso pr (X pr) 195 [.int .i64 v151.b,.int .i64 0,.int .i64 8]=some (.int .i64 v176,false):=W195 h177
    obtain ⟨v178,h179,h⟩:=obind_some h
    obtain ⟨v180,h181,h⟩:=obind_some h
    have wh181:callIso pr (X pr) 171 [.list false 1 [.int .i64 v172,.int .i64 v174,.int .i64 v176,.int .i64 v178]]=some (.int .i64 v180,false):=W171 h181
    rcases cond_split h with ⟨h182,h⟩ | ⟨h182,h⟩
    ·cases h
     exact stepO_in (st':=⟨[(11,sl 3 vel a0,false),(12,.int .i64 ((a0.getD []).length:Int),false),(13,.int .i64 (wrapF .i64 (s0 + 1)),false)],[]++[.cells [(.str v151.kind,false),(.int .i64 v151.a,false),(.int .i64 v151.b,false)],.map kmap193,.cells [(.str ([115,104,117,110,116]:List UInt8),false),(.bool false,false),(.fn (.func 219) [] [],false)]]⟩) (by simp only [go_sem,seval,c158_0,St158_0,h150,idxR_O h152,h153,h171,kind1 h153 h171,W194 h173,wh175,wh177,W194 h179,wh181,h182] <;> rfl) (gc_over rfl rfl (by first | simp only [go_sem,seval,St158_0] | rfl) (by first | simp only [go_sem,seval,St158_0] | rfl))
    ·cases h
     exact stepO_out (by simp only [go_sem,seval,c158_0,St158_0,h150,idxR_O h152,h153,h171,kind1 h153 h171,W194 h173,wh175,wh177,W194 h179,wh181,h182,Ex158_0] <;> rfl)
   ·rcases cond_split h with ⟨h183,h⟩ | ⟨h183,h⟩
    ·obtain ⟨v184,h185,h⟩:=obind_some h
     obtain ⟨v186,h187,h⟩:=obind_some h
     have wh187:callIso pr (X pr) 195 [.int .i64 v151.a,.int .i64 0,.int .i64 8]=some (.int .i64 v186,false):=W195 h187
     obtain ⟨v188,h189,h⟩:=obind_some h
     have wh189:callIso pr (X pr) 195 [.int .i64 v151.b,.int .i64 0,.int .i64 8]=some (.int .i64 v188,false):=W195 h189
     obtain ⟨v190,h191,h⟩:=obind_some h
     obtain ⟨v192,h193,h⟩:=obind_some h
     have wh193:callIso pr (X pr) 171 [.list false 1 [.int .i64 v184,.int .i64 v186,.int .i64 v188,.int .i64 v190]]=some (.int .i64 v192,false):=W171 h193
     rcases cond_split h with ⟨h194,h⟩ | ⟨h194,h⟩
     ·cases h
      exact stepO_in (st':=⟨[(11,sl 3 vel a0,false),(12,.int .i64 ((a0.getD []).length:Int),false),(13,.int .i64 (wrapF .i64 (s0 + 1)),false)],[]++[.cells [(.str v151.kind,false),(.int .i64 v151.a,false),(.int .i64 v151.b,false)],.map kmap193,.cells [(.str ([115,101,114,105,101,115]:List UInt8),false),(.bool false,false),(.fn (.func 220) [] [],false)]]⟩) (by simp only [go_sem,seval,c158_0,St158_0,h150,idxR_O h152,h153,h171,h183,kind2 h153 h171 h183,W194 h185,wh187,wh189,W194 h191,wh193,h194] <;> rfl) (gc_over rfl rfl (by first | simp only [go_sem,seval,St158_0] | rfl) (by first | simp only [go_sem,seval,St158_0] | rfl))
     ·cases h
      exact stepO_out (by simp only [go_sem,seval,c158_0,St158_0,h150,idxR_O h152,h153,h171,h183,kind2 h153 h171 h183,W194 h185,wh187,wh189,W194 h191,wh193,h194,Ex158_0] <;> rfl)
    ·rcases cond_split h with ⟨h195,h⟩ | ⟨h195,h⟩
     ·obtain ⟨v196,h197,h⟩:=obind_some h
      obtain ⟨v198,h199,h⟩:=obind_some h
      have wh199:callIso pr (X pr) 195 [.int .i64 v151.a,.int .i64 0,.int .i64 8]=some (.int .i64 v198,false):=W195 h199
      obtain ⟨v200,h201,h⟩:=obind_some h
      have wh201:callIso pr (X pr) 195 [.int .i64 v151.b,.int .i64 0,.int .i64 8]=some (.int .i64 v200,false):=W195 h201
      rcases cond_split h with ⟨h202,h⟩ | ⟨h202,h⟩
      ·obtain ⟨v203,h204,h⟩:=obind_some h
       have wh204:callIso pr (X pr) 194 [.bool (decide (v151.b=0)),.int .i64 6]=some (.int .i64 v203,false):=W194 h204
       obtain ⟨v205,h206,h⟩:=obind_some h
       have wh206:callIso pr (X pr) 171 [.list false 1 [.int .i64 v196,.int .i64 v198,.int .i64 v200,.int .i64 v203]]=some (.int .i64 v205,false):=W171 h206
       rcases cond_split h with ⟨h207,h⟩ | ⟨h207,h⟩
       ·cases h
        exact stepO_in (st':=⟨[(11,sl 3 vel a0,false),(12,.int .i64 ((a0.getD []).length:Int),false),(13,.int .i64 (wrapF .i64 (s0 + 1)),false)],[]++[.cells [(.str v151.kind,false),(.int .i64 v151.a,false),(.int .i64 v151.b,false)],.map kmap193,.cells [(.str ([98,108,111,99,107]:List UInt8),false),(.bool true,false),(.fn (.func 221) [] [],false)]]⟩) (by simp only [go_sem,seval,c158_0,St158_0,h150,idxR_O h152,h153,h171,h183,h195,kind3 h153 h171 h183 h195,W194 h197,wh199,wh201,h202,wh204,wh206,h207] <;> rfl) (gc_over rfl rfl (by first | simp only [go_sem,seval,St158_0] | rfl) (by first | simp only [go_sem,seval,St158_0] | rfl))
       ·cases h
        exact stepO_out (by simp only [go_sem,seval,c158_0,St158_0,h150,idxR_O h152,h153,h171,h183,h195,kind3 h153 h171 h183 h195,W194 h197,wh199,wh201,h202,wh204,wh206,h207,Ex158_0] <;> rfl)
      ·obtain ⟨v208,h209,h⟩:=obind_some h
       obtain ⟨v210,h211,h⟩:=obind_some h
       have wh211:callIso pr (X pr) 171 [.list false 1 [.int .i64 v196,.int .i64 v198,.int .i64 v200,.int .i64 v208]]=some (.int .i64 v210,false):=W171 h211
       rcases cond_split h with ⟨h212,h⟩ | ⟨h212,h⟩
       ·cases h
        exact stepO_in (st':=⟨[(11,sl 3 vel a0,false),(12,.int .i64 ((a0.getD []).length:Int),false),(13,.int .i64 (wrapF .i64 (s0 + 1)),false)],[]++[.cells [(.str v151.kind,false),(.int .i64 v151.a,false),(.int .i64 v151.b,false)],.map kmap193,.cells [(.str ([98,108,111,99,107]:List UInt8),false),(.bool true,false),(.fn (.func 221) [] [],false)]]⟩) (by simp only [go_sem,seval,c158_0,St158_0,h150,idxR_O h152,h153,h171,h183,h195,kind3 h153 h171 h183 h195,W194 h197,wh199,wh201,h202,W194 h209,wh211,h212] <;> rfl) (gc_over rfl rfl (by first | simp only [go_sem,seval,St158_0] | rfl) (by first | simp only [go_sem,seval,St158_0] | rfl))
       ·cases h
        exact stepO_out (by simp only [go_sem,seval,c158_0,St158_0,h150,idxR_O h152,h153,h171,h183,h195,kind3 h153 h171 h183 h195,W194 h197,wh199,wh201,h202,W194 h209,wh211,h212,Ex158_0] <;> rfl)
     ·obtain ⟨v213,h214,h⟩:=obind_some h
      obtain ⟨v215,h216,h⟩:=obind_some h
      have wh216:callIso pr (X pr) 195 [.int .i64 v151.a,.int .i64 0,.int .i64 8]=some (.int .i64 v215,false):=W195 h216
      obtain ⟨v217,h218,h⟩:=obind_some h
      have wh218:callIso pr (X pr) 195 [.int .i64 v151.b,.int .i64 0,.int .i64 8]=some (.int .i64 v217,false):=W195 h218
      obtain ⟨v219,h220,h⟩:=obind_some h
      obtain ⟨v221,h222,h⟩:=obind_some h
      have wh222:callIso pr (X pr) 171 [.list false 1 [.int .i64 v213,.int .i64 v215,.int .i64 v217,.int .i64 v219]]=some (.int .i64 v221,false):=W171 h222
      rcases cond_split h with ⟨h223,h⟩ | ⟨h223,h⟩
      ·cases h
       exact stepO_in (st':=⟨[(11,sl 3 vel a0,false),(12,.int .i64 ((a0.getD []).length:Int),false),(13,.int .i64 (wrapF .i64 (s0 + 1)),false)],[]++[.cells [(.str v151.kind,false),(.int .i64 v151.a,false),(.int .i64 v151.b,false)],.map kmap193,.cells [(.str [],false),(.bool false,false),(.nilfn,false)]]⟩) (by simp only [go_sem,seval,c158_0,St158_0,h150,idxR_O h152,h153,h171,h183,h195,kind4 h153 h171 h183 h195,W194 h214,wh216,wh218,W194 h220,wh222,h223] <;> rfl) (gc_over rfl rfl (by first | simp only [go_sem,seval,St158_0] | rfl) (by first | simp only [go_sem,seval,St158_0] | rfl))
      ·cases h
       exact stepO_out (by simp only [go_sem,seval,c158_0,St158_0,h150,idxR_O h152,h153,h171,h183,h195,kind4 h153 h171 h183 h195,W194 h214,wh216,wh218,W194 h220,wh222,h223,Ex158_0] <;> rfl)
 ·cases h
  exact stepO_out (by simp only [go_sem,seval,c158_0,St158_0,h150,Ex158_0] <;> rfl)
theorem l158_0 (a0:Option (List GEl)) {s0:Int} {d} (h:itO (s158_0 a0) s0=some d):X pr (.loop c158_0) (St158_0 a0 s0)=some (Ex158_0 a0 d):=X_itO (b158_0 a0) (fun d=>by rcases d with d|d|d|d|d|d <;> (intro hh; cases hh)) h
noncomputable def f158 (a0:Option (List GEl)):Option Int:=
 cond (decide (5 < ((a0.getD []).length:Int)))
  (some 5)
  (obind (itO (s158_0 a0) 0) fun d224=>match d224 with
   | .inl d226=>
    some d226.1
   | .inr (.inl d227)=>
    some d227.1
   | .inr (.inr (.inl d228))=>
    some d228.1
   | .inr (.inr (.inr (.inl d229)))=>
    some d229.1
   | .inr (.inr (.inr (.inr (.inl d230))))=>
    some d230.1
   | .inr (.inr (.inr (.inr (.inr d231))))=>
    some 0)
theorem W158 {a0:Option (List GEl)} {r} (h:f158 a0=some r):callIso pr (X pr) 158 [sl 3 vel a0]=some (.int .i64 r,false):=by
 unfold f158 at h
 rcases cond_split h with ⟨h1,h⟩ | ⟨h1,h⟩
 ·have hr:5=r:=Option.some.inj h
  subst hr
  refine iso_F rfl ?_ (fun _=>by first | rfl | simp only [go_sem,seval]) (by first | rfl | simp only [go_sem,seval])
  rw [callFn_at (show pr.fns 158=some c158 from rfl) (by simp)]
  simp only [go_sem,seval,c158,h1]
  exact ⟨_,rfl⟩
 ·obtain ⟨d224,h225,h⟩:=obind_some h
  rcases d224 with d226 | d227 | d228 | d229 | d230 | d231
  ·have wh225:X pr (.loop c158_0) ⟨[(11,sl 3 vel a0,false),(12,.int .i64 ((a0.getD []).length:Int),false),(13,.int .i64 0,false)],[]⟩=some (.ret,⟨[(2,.int .i64 d226.1,false)],[.cells [(.str d226.2.1,false),(.int .i64 d226.2.2.1,false),(.int .i64 d226.2.2.2,false)],.map kmap193,.cells [(.str ([116,114,97,112]:List UInt8),false),(.bool true,false),(.fn (.func 218) [] [],false)]]⟩):=l158_0 a0 h225
   have hr:d226.1=r:=Option.some.inj h
   subst hr
   refine iso_F rfl ?_ (fun _=>by first | rfl | simp only [go_sem,seval]) (by first | rfl | simp only [go_sem,seval])
   rw [callFn_at (show pr.fns 158=some c158 from rfl) (by simp)]
   simp only [go_sem,seval,c158,h1,wh225]
   exact ⟨_,rfl⟩
  ·have wh225:X pr (.loop c158_0) ⟨[(11,sl 3 vel a0,false),(12,.int .i64 ((a0.getD []).length:Int),false),(13,.int .i64 0,false)],[]⟩=some (.ret,⟨[(2,.int .i64 d227.1,false)],[.cells [(.str d227.2.1,false),(.int .i64 d227.2.2.1,false),(.int .i64 d227.2.2.2,false)],.map kmap193,.cells [(.str ([115,104,117,110,116]:List UInt8),false),(.bool false,false),(.fn (.func 219) [] [],false)]]⟩):=l158_0 a0 h225
   have hr:d227.1=r:=Option.some.inj h
   subst hr
   refine iso_F rfl ?_ (fun _=>by first | rfl | simp only [go_sem,seval]) (by first | rfl | simp only [go_sem,seval])
   rw [callFn_at (show pr.fns 158=some c158 from rfl) (by simp)]
   simp only [go_sem,seval,c158,h1,wh225]
   exact ⟨_,rfl⟩
  ·have wh225:X pr (.loop c158_0) ⟨[(11,sl 3 vel a0,false),(12,.int .i64 ((a0.getD []).length:Int),false),(13,.int .i64 0,false)],[]⟩=some (.ret,⟨[(2,.int .i64 d228.1,false)],[.cells [(.str d228.2.1,false),(.int .i64 d228.2.2.1,false),(.int .i64 d228.2.2.2,false)],.map kmap193,.cells [(.str ([115,101,114,105,101,115]:List UInt8),false),(.bool false,false),(.fn (.func 220) [] [],false)]]⟩):=l158_0 a0 h225
   have hr:d228.1=r:=Option.some.inj h
   subst hr
   refine iso_F rfl ?_ (fun _=>by first | rfl | simp only [go_sem,seval]) (by first | rfl | simp only [go_sem,seval])
   rw [callFn_at (show pr.fns 158=some c158 from rfl) (by simp)]
   simp only [go_sem,seval,c158,h1,wh225]
   exact ⟨_,rfl⟩
  ·have wh225:X pr (.loop c158_0) ⟨[(11,sl 3 vel a0,false),(12,.int .i64 ((a0.getD []).length:Int),false),(13,.int .i64 0,false)],[]⟩=some (.ret,⟨[(2,.int .i64 d229.1,false)],[.cells [(.str d229.2.1,false),(.int .i64 d229.2.2.1,false),(.int .i64 d229.2.2.2,false)],.map kmap193,.cells [(.str ([98,108,111,99,107]:List UInt8),false),(.bool true,false),(.fn (.func 221) [] [],false)]]⟩):=l158_0 a0 h225
   have hr:d229.1=r:=Option.some.inj h
   subst hr
   refine iso_F rfl ?_ (fun _=>by first | rfl | simp only [go_sem,seval]) (by first | rfl | simp only [go_sem,seval])
   rw [callFn_at (show pr.fns 158=some c158 from rfl) (by simp)]
   simp only [go_sem,seval,c158,h1,wh225]
   exact ⟨_,rfl⟩
  ·have wh225:X pr (.loop c158_0) ⟨[(11,sl 3 vel a0,false),(12,.int .i64 ((a0.getD []).length:Int),false),(13,.int .i64 0,false)],[]⟩=some (.ret,⟨[(2,.int .i64 d230.1,false)],[.cells [(.str d230.2.1,false),(.int .i64 d230.2.2.1,false),(.int .i64 d230.2.2.2,false)],.map kmap193,.cells [(.str [],false),(.bool false,false),(.nilfn,false)]]⟩):=l158_0 a0 h225
   have hr:d230.1=r:=Option.some.inj h
   subst hr
   refine iso_F rfl ?_ (fun _=>by first | rfl | simp only [go_sem,seval]) (by first | rfl | simp only [go_sem,seval])
   rw [callFn_at (show pr.fns 158=some c158 from rfl) (by simp)]
   simp only [go_sem,seval,c158,h1,wh225]
   exact ⟨_,rfl⟩
  ·have wh225:X pr (.loop c158_0) ⟨[(11,sl 3 vel a0,false),(12,.int .i64 ((a0.getD []).length:Int),false),(13,.int .i64 0,false)],[]⟩=some (.exit 0,⟨[(11,sl 3 vel a0,false),(12,.int .i64 ((a0.getD []).length:Int),false),(13,.int .i64 d231,false),(14,.bool false,false)],[]⟩):=l158_0 a0 h225
   have hr:0=r:=Option.some.inj h
   subst hr
   refine iso_F rfl ?_ (fun _=>by first | rfl | simp only [go_sem,seval]) (by first | rfl | simp only [go_sem,seval])
   rw [callFn_at (show pr.fns 158=some c158 from rfl) (by simp)]
   simp only [go_sem,seval,c158,h1,wh225]
   exact ⟨_,rfl⟩
noncomputable def f108 (a0:GEl):Option Int:=
 obind (f158 (some [a0])) fun v1=>
 some v1
theorem W108 {a0:GEl} {r} (h:f108 a0=some r):callIso pr (X pr) 108 [.agg [.str a0.kind,.int .i64 a0.a,.int .i64 a0.b]]=some (.int .i64 r,false):=by
 unfold f108 at h
 obtain ⟨v1,h2,h⟩:=obind_some h
 have wh2:callIso pr (X pr) 158 [.list false 3 [.agg [.str a0.kind,.int .i64 a0.a,.int .i64 a0.b]]]=some (.int .i64 v1,false):=W158 h2
 have hr:v1=r:=Option.some.inj h
 subst hr
 refine iso_F rfl ?_ (fun _=>by first | rfl | simp only [go_sem,seval]) (by first | rfl | simp only [go_sem,seval])
 rw [callFn_at (show pr.fns 108=some c108 from rfl) (by simp)]
 simp only [go_sem,seval,c108,wh2]
 exact ⟨_,rfl⟩
noncomputable def f108y (a0:GEl):Option Int:=
 obind (f158 (some [a0])) fun v1=>
 some v1
theorem W108y (hp:Heap) {a0:GEl} {r} (h:f108y a0=some r):callFn pr (X pr) 108 [.agg [.str a0.kind,.int .i64 a0.a,.int .i64 a0.b]] hp=some (.int .i64 r,false,hp):=by
 unfold f108y at h
 obtain ⟨v1,h2,h⟩:=obind_some h
 have wh2:callIso pr (X pr) 158 [.list false 3 [.agg [.str a0.kind,.int .i64 a0.a,.int .i64 a0.b]]]=some (.int .i64 v1,false):=W158 h2
 have hr:v1=r:=Option.some.inj h
 subst hr
 rw [callFn_at (show pr.fns 108=some c108 from rfl) (by simp)]
 simp only [go_sem,seval,c108,wh2] <;> rfl
noncomputable def f155 (a0:Int) (a1:Int):Option GRat:=
 some (⟨wrapF .i64 (a0 - a1),wrapF .i64 (a0 + a1)⟩)
theorem W155 {a0:Int} {a1:Int} {r} (h:f155 a0 a1=some r):callIso pr (X pr) 155 [.int .i64 a0,.int .i64 a1]=some (.agg [.int .i64 r.num,.int .i64 r.den],false):=by
 unfold f155 at h
 have hr:⟨wrapF .i64 (a0 - a1),wrapF .i64 (a0 + a1)⟩=r:=Option.some.inj h
 subst hr
 refine iso_F rfl ?_ (fun _=>by first | rfl | simp only [go_sem,seval]) (by first | rfl | simp only [go_sem,seval])
 rw [callFn_at (show pr.fns 155=some c155 from rfl) (by simp)]
 simp only [go_sem,seval,c155]
 exact ⟨_,rfl⟩
noncomputable def s156_0 (a0:GRat) (s0:(Option (List Int)) × Int × Bool):Option (((Option (List Int)) × Int × Bool) ⊕ (((Option (List Int)) × Bool × Int))):=
 cond (decide (s0.2.1≤a0.den))
  (cond s0.2.2
   (obind (apO s0.1 [s0.2.1]) fun v13=>
   some (.inl (v13,wrapF .i64 (s0.2.1 + 1),true)))
   (cond s0.1.isNone
    (obind (apO s0.1 [s0.2.1]) fun v16=>
    some (.inl (v16,wrapF .i64 (s0.2.1 + 1),true)))
    (none)))
  (some (.inr (s0.1,s0.2.2,s0.2.1)))
def St156_0 (a0:GRat) (s0:(Option (List Int)) × Int × Bool):ASt:=⟨[(2,.vptr (.agg [.int .i64 a0.num,.int .i64 a0.den]),false),(5,sl 1 vint s0.1,s0.2.2),(6,.int .i64 s0.2.1,false)],[]⟩
def Ex156_0 (a0:GRat) (d:((Option (List Int)) × Bool × Int)):AExit × ASt:=(.exit 0,⟨[(2,.vptr (.agg [.int .i64 a0.num,.int .i64 a0.den]),false),(5,sl 1 vint d.1,d.2.1),(6,.int .i64 d.2.2,false),(28,.bool false,false)],[]⟩)
theorem b156_0 (a0:GRat) (s0:(Option (List Int)) × Int × Bool) (r) (h:s156_0 a0 s0=some r):stepO pr c156_0 (St156_0 a0) (Ex156_0 a0) s0 r:=by
 unfold s156_0 at h
 rcases cond_split h with ⟨h11,h⟩ | ⟨h11,h⟩
 ·rcases cond_split h with ⟨h12,h⟩ | ⟨h12,h⟩
  ·obtain ⟨v13,h14,h⟩:=obind_some h
   cases h
   exact stepO_in (st':=⟨[(2,.vptr (.agg [.int .i64 a0.num,.int .i64 a0.den]),false),(5,sl 1 vint v13,true),(6,.int .i64 (wrapF .i64 (s0.2.1 + 1)),false)],[]⟩) (by simp only [go_sem,seval,c156_0,St156_0,h11,h12,app_vint_O h14] <;> rfl) (gc_same (Nat.le_refl _))
  ·rcases cond_split h with ⟨h15,h⟩ | ⟨h15,h⟩
   ·obtain ⟨v16,h17,h⟩:=obind_some h
    cases h
    exact stepO_in (st':=⟨[(2,.vptr (.agg [.int .i64 a0.num,.int .i64 a0.den]),false),(5,sl 1 vint v16,true),(6,.int .i64 (wrapF .i64 (s0.2.1 + 1)),false)],[]⟩) (by simp only [go_sem,seval,c156_0,St156_0,h11,h12,h15,app_vint_N h17 h15] <;> rfl) (gc_same (Nat.le_refl _))
   ·cases h
 ·cases h
  exact stepO_out (by simp only [go_sem,seval,c156_0,St156_0,h11,Ex156_0] <;> rfl)
theorem l156_0 (a0:GRat) {s0:(Option (List Int)) × Int × Bool} {d} (h:itO (s156_0 a0) s0=some d):X pr (.loop c156_0) (St156_0 a0 s0)=some (Ex156_0 a0 d):=X_itO (b156_0 a0) (fun d hh=>by cases hh) h
noncomputable def f156 (a0:GRat) (a1:Bool):Option ((Option (List Int)) × Bool):=
 cond (decide (a0.den=a0.num))
  (some (some [a0.num],true))
  (cond a1
   (some (some [a0.num,a0.den],true))
   (obind (itO (s156_0 a0) (none,a0.num,false)) fun d18=>
   some (d18.1,d18.2.1)))
theorem W156 {a0:GRat} {a1:Bool} {r} (h:f156 a0 a1=some r):callIso pr (X pr) 156 [.agg [.int .i64 a0.num,.int .i64 a0.den],.bool a1]=some (sl 1 vint r.1,r.2):=by
 unfold f156 at h
 rcases cond_split h with ⟨h1,h⟩ | ⟨h1,h⟩
 ·have hr:(some [a0.num],true)=r:=Option.some.inj h
  subst hr
  have this:∃ hh,callFn pr (X pr) 156 [.agg [.int .i64 a0.num,.int .i64 a0.den],.bool a1] []=some (.list false 1 [.int .i64 a0.num],true,hh):=by
   rw [callFn_at (show pr.fns 156=some c156 from rfl) (by simp)]
   simp only [go_sem,seval,c156,h1]
   exact ⟨_,rfl⟩
  obtain ⟨hh,this⟩:=this
  exact callIso_of_dyn rfl this (by first | rfl | simp only [go_sem,seval]) (by first | rfl | simp only [go_sem,seval]) (by first | rfl | simp only [go_sem,seval])
 ·rcases cond_split h with ⟨h2,h⟩ | ⟨h2,h⟩
  ·have hr:(some [a0.num,a0.den],true)=r:=Option.some.inj h
   subst hr
   have this:∃ hh,callFn pr (X pr) 156 [.agg [.int .i64 a0.num,.int .i64 a0.den],.bool a1] []=some (.list false 1 [.int .i64 a0.num,.int .i64 a0.den],true,hh):=by
    rw [callFn_at (show pr.fns 156=some c156 from rfl) (by simp)]
    simp only [go_sem,seval,c156,h1,h2]
    exact ⟨_,rfl⟩
   obtain ⟨hh,this⟩:=this
   exact callIso_of_dyn rfl this (by first | rfl | simp only [go_sem,seval]) (by first | rfl | simp only [go_sem,seval]) (by first | rfl | simp only [go_sem,seval])
  ·obtain ⟨d18,h19,h⟩:=obind_some h
   have wh19:X pr (.loop c156_0) ⟨[(2,.vptr (.agg [.int .i64 a0.num,.int .i64 a0.den]),false),(5,.list true 0 [],false),(6,.int .i64 a0.num,false)],[]⟩=some (.exit 0,⟨[(2,.vptr (.agg [.int .i64 a0.num,.int .i64 a0.den]),false),(5,sl 1 vint d18.1,d18.2.1),(6,.int .i64 d18.2.2,false),(28,.bool false,false)],[]⟩):=l156_0 a0 h19
   have hr:(d18.1,d18.2.1)=r:=Option.some.inj h
   subst hr
   have this:∃ hh,callFn pr (X pr) 156 [.agg [.int .i64 a0.num,.int .i64 a0.den],.bool a1] []=some (sl 1 vint d18.1,d18.2.1,hh):=by
    rw [callFn_at (show pr.fns 156=some c156 from rfl) (by simp)]
    simp only [go_sem,seval,c156,h1,h2,wh19]
    exact ⟨_,rfl⟩
   obtain ⟨hh,this⟩:=this
   exact callIso_of_dyn rfl this (by first | rfl | simp only [go_sem,seval]) (by first | rfl | simp only [go_sem,seval]) (by first | rfl | simp only [go_sem,seval])
noncomputable def s99_1 (a0:GPart) (a1:Bool) (v3:(Option (List Int)) × Bool) (s0:(Option (List GEl)) × Int × Bool) (v72:Int) (v76:(Option (List Int)) × Bool) (s1:(Option (List GEl)) × Int × Bool):Option (((Option (List GEl)) × Int × Bool) ⊕ (((Option (List GEl)) × Bool × Int))):=
 cond (decide (s1.2.1 < ((v76.1.getD []).length:Int)))
  (obind (idxO (v76.1.getD []) s1.2.1) fun v97=>
  cond s1.2.2
   (obind (apO s1.1 [⟨a0.kd,v72,v97⟩]) fun v100=>
   some (.inl (v100,wrapF .i64 (s1.2.1 + 1),true)))
   (cond s1.1.isNone
    (obind (apO s1.1 [⟨a0.kd,v72,v97⟩]) fun v103=>
    some (.inl (v103,wrapF .i64 (s1.2.1 + 1),true)))
    (none)))
  (some (.inr (s1.1,s1.2.2,s1.2.1)))
def St99_1 (a0:GPart) (a1:Bool) (v3:(Option (List Int)) × Bool) (s0:(Option (List GEl)) × Int × Bool) (v72:Int) (v76:(Option (List Int)) × Bool) (s1:(Option (List GEl)) × Int × Bool):ASt:=⟨[(1,.bool a1,false),(2,.vptr (.agg [.str a0.name,.str a0.kd,.int .i64 a0.pa,.int .i64 a0.pb,.int .i64 a0.sa,.int .i64 a0.sb,.int .i64 a0.cost,.int .i64 a0.stock]),false),(5,sl 3 vel s1.1,s1.2.2),(7,.int .i64 v72,false),(17,sl 1 vint v3.1,v3.2),(18,.int .i64 ((v3.1.getD []).length:Int),false),(19,.int .i64 s0.2.1,false),(30,sl 1 vint v76.1,v76.2),(31,.int .i64 ((v76.1.getD []).length:Int),false),(32,.int .i64 s1.2.1,false)],[]⟩
def Ex99_1 (a0:GPart) (a1:Bool) (v3:(Option (List Int)) × Bool) (s0:(Option (List GEl)) × Int × Bool) (v72:Int) (v76:(Option (List Int)) × Bool) (d:((Option (List GEl)) × Bool × Int)):AExit × ASt:=(.exit 2,⟨[(1,.bool a1,false),(2,.vptr (.agg [.str a0.name,.str a0.kd,.int .i64 a0.pa,.int .i64 a0.pb,.int .i64 a0.sa,.int .i64 a0.sb,.int .i64 a0.cost,.int .i64 a0.stock]),false),(5,sl 3 vel d.1,d.2.1),(7,.int .i64 v72,false),(17,sl 1 vint v3.1,v3.2),(18,.int .i64 ((v3.1.getD []).length:Int),false),(19,.int .i64 s0.2.1,false),(30,sl 1 vint v76.1,v76.2),(31,.int .i64 ((v76.1.getD []).length:Int),false),(32,.int .i64 d.2.2,false),(33,.bool false,false)],[]⟩)
theorem b99_1 (a0:GPart) (a1:Bool) (v3:(Option (List Int)) × Bool) (s0:(Option (List GEl)) × Int × Bool) (v72:Int) (v76:(Option (List Int)) × Bool) (s1:(Option (List GEl)) × Int × Bool) (r) (h:s99_1 a0 a1 v3 s0 v72 v76 s1=some r):stepO pr c99_1 (St99_1 a0 a1 v3 s0 v72 v76) (Ex99_1 a0 a1 v3 s0 v72 v76) s1 r:=by
 unfold s99_1 at h
 rcases cond_split h with ⟨h96,h⟩ | ⟨h96,h⟩
 ·obtain ⟨v97,h98,h⟩:=obind_some h
  rcases cond_split h with ⟨h99,h⟩ | ⟨h99,h⟩
  ·obtain ⟨v100,h101,h⟩:=obind_some h
   cases h
   exact stepO_in (st':=⟨[(1,.bool a1,false),(2,.vptr (.agg [.str a0.name,.str a0.kd,.int .i64 a0.pa,.int .i64 a0.pb,.int .i64 a0.sa,.int .i64 a0.sb,.int .i64 a0.cost,.int .i64 a0.stock]),false),(5,sl 3 vel v100,true),(7,.int .i64 v72,false),(17,sl 1 vint v3.1,v3.2),(18,.int .i64 ((v3.1.getD []).length:Int),false),(19,.int .i64 s0.2.1,false),(30,sl 1 vint v76.1,v76.2),(31,.int .i64 ((v76.1.getD []).length:Int),false),(32,.int .i64 (wrapF .i64 (s1.2.1 + 1)),false)],[]⟩) (by simp only [go_sem,seval,c99_1,St99_1,h96,idxR_O h98,h99,app_vel_O h101] <;> rfl) (gc_same (Nat.le_refl _))
  ·rcases cond_split h with ⟨h102,h⟩ | ⟨h102,h⟩
   ·obtain ⟨v103,h104,h⟩:=obind_some h
    cases h
    exact stepO_in (st':=⟨[(1,.bool a1,false),(2,.vptr (.agg [.str a0.name,.str a0.kd,.int .i64 a0.pa,.int .i64 a0.pb,.int .i64 a0.sa,.int .i64 a0.sb,.int .i64 a0.cost,.int .i64 a0.stock]),false),(5,sl 3 vel v103,true),(7,.int .i64 v72,false),(17,sl 1 vint v3.1,v3.2),(18,.int .i64 ((v3.1.getD []).length:Int),false),(19,.int .i64 s0.2.1,false),(30,sl 1 vint v76.1,v76.2),(31,.int .i64 ((v76.1.getD []).length:Int),false),(32,.int .i64 (wrapF .i64 (s1.2.1 + 1)),false)],[]⟩) (by simp only [go_sem,seval,c99_1,St99_1,h96,idxR_O h98,h99,h102,app_vel_N h104 h102] <;> rfl) (gc_same (Nat.le_refl _))
   ·cases h
 ·cases h
  exact stepO_out (by simp only [go_sem,seval,c99_1,St99_1,h96,Ex99_1] <;> rfl)
theorem l99_1 (a0:GPart) (a1:Bool) (v3:(Option (List Int)) × Bool) (s0:(Option (List GEl)) × Int × Bool) (v72:Int) (v76:(Option (List Int)) × Bool) {s1:(Option (List GEl)) × Int × Bool} {d} (h:itO (s99_1 a0 a1 v3 s0 v72 v76) s1=some d):X pr (.loop c99_1) (St99_1 a0 a1 v3 s0 v72 v76 s1)=some (Ex99_1 a0 a1 v3 s0 v72 v76 d):=X_itO (b99_1 a0 a1 v3 s0 v72 v76) (fun d hh=>by cases hh) h
noncomputable def s99_0 (a0:GPart) (a1:Bool) (v3:(Option (List Int)) × Bool) (s0:(Option (List GEl)) × Int × Bool):Option (((Option (List GEl)) × Int × Bool) ⊕ (((Option (List GEl)) × Bool × Int))):=
 cond (decide (s0.2.1 < ((v3.1.getD []).length:Int)))
  (obind (idxO (v3.1.getD []) s0.2.1) fun v72=>
  obind (f155 a0.pb a0.sb) fun v74=>
  obind (f156 v74 a1) fun v76=>
  obind (itO (s99_1 a0 a1 v3 s0 v72 v76) (s0.1,0,s0.2.2)) fun d105=>
  some (.inl (d105.1,wrapF .i64 (s0.2.1 + 1),d105.2.1)))
  (some (.inr (s0.1,s0.2.2,s0.2.1)))
def St99_0 (a0:GPart) (a1:Bool) (v3:(Option (List Int)) × Bool) (s0:(Option (List GEl)) × Int × Bool):ASt:=⟨[(1,.bool a1,false),(2,.vptr (.agg [.str a0.name,.str a0.kd,.int .i64 a0.pa,.int .i64 a0.pb,.int .i64 a0.sa,.int .i64 a0.sb,.int .i64 a0.cost,.int .i64 a0.stock]),false),(5,sl 3 vel s0.1,s0.2.2),(17,sl 1 vint v3.1,v3.2),(18,.int .i64 ((v3.1.getD []).length:Int),false),(19,.int .i64 s0.2.1,false)],[]⟩
def Ex99_0 (a0:GPart) (a1:Bool) (v3:(Option (List Int)) × Bool) (d:((Option (List GEl)) × Bool × Int)):AExit × ASt:=(.exit 0,⟨[(1,.bool a1,false),(2,.vptr (.agg [.str a0.name,.str a0.kd,.int .i64 a0.pa,.int .i64 a0.pb,.int .i64 a0.sa,.int .i64 a0.sb,.int .i64 a0.cost,.int .i64 a0.stock]),false),(5,sl 3 vel d.1,d.2.1),(17,sl 1 vint v3.1,v3.2),(18,.int .i64 ((v3.1.getD []).length:Int),false),(19,.int .i64 d.2.2,false),(20,.bool false,false)],[]⟩)
theorem b99_0 (a0:GPart) (a1:Bool) (v3:(Option (List Int)) × Bool) (s0:(Option (List GEl)) × Int × Bool) (r) (h:s99_0 a0 a1 v3 s0=some r):stepO pr c99_0 (St99_0 a0 a1 v3) (Ex99_0 a0 a1 v3) s0 r:=by
 unfold s99_0 at h
 rcases cond_split h with ⟨h71,h⟩ | ⟨h71,h⟩
 ·obtain ⟨v72,h73,h⟩:=obind_some h
  obtain ⟨v74,h75,h⟩:=obind_some h
  have wh75:callIso pr (X pr) 155 [.int .i64 a0.pb,.int .i64 a0.sb]=some (.agg [.int .i64 v74.num,.int .i64 v74.den],false):=W155 h75
  obtain ⟨v76,h77,h⟩:=obind_some h
  have wh77:callIso pr (X pr) 156 [.agg [.int .i64 v74.num,.int .i64 v74.den],.bool a1]=some (sl 1 vint v76.1,v76.2):=W156 h77
  obtain ⟨d105,h106,h⟩:=obind_some h
  have wh106:X pr (.loop c99_1) ⟨[(1,.bool a1,false),(2,.vptr (.agg [.str a0.name,.str a0.kd,.int .i64 a0.pa,.int .i64 a0.pb,.int .i64 a0.sa,.int .i64 a0.sb,.int .i64 a0.cost,.int .i64 a0.stock]),false),(5,sl 3 vel s0.1,s0.2.2),(7,.int .i64 v72,false),(17,sl 1 vint v3.1,v3.2),(18,.int .i64 ((v3.1.getD []).length:Int),false),(19,.int .i64 s0.2.1,false),(30,sl 1 vint v76.1,v76.2),(31,.int .i64 ((v76.1.getD []).length:Int),false),(32,.int .i64 0,false)],[]⟩=some (.exit 2,⟨[(1,.bool a1,false),(2,.vptr (.agg [.str a0.name,.str a0.kd,.int .i64 a0.pa,.int .i64 a0.pb,.int .i64 a0.sa,.int .i64 a0.sb,.int .i64 a0.cost,.int .i64 a0.stock]),false),(5,sl 3 vel d105.1,d105.2.1),(7,.int .i64 v72,false),(17,sl 1 vint v3.1,v3.2),(18,.int .i64 ((v3.1.getD []).length:Int),false),(19,.int .i64 s0.2.1,false),(30,sl 1 vint v76.1,v76.2),(31,.int .i64 ((v76.1.getD []).length:Int),false),(32,.int .i64 d105.2.2,false),(33,.bool false,false)],[]⟩):=l99_1 a0 a1 v3 s0 v72 v76 h106
  cases h
  exact stepO_in (st':=⟨[(1,.bool a1,false),(2,.vptr (.agg [.str a0.name,.str a0.kd,.int .i64 a0.pa,.int .i64 a0.pb,.int .i64 a0.sa,.int .i64 a0.sb,.int .i64 a0.cost,.int .i64 a0.stock]),false),(5,sl 3 vel d105.1,d105.2.1),(17,sl 1 vint v3.1,v3.2),(18,.int .i64 ((v3.1.getD []).length:Int),false),(19,.int .i64 (wrapF .i64 (s0.2.1 + 1)),false)],[]⟩) (by simp only [go_sem,seval,c99_0,St99_0,h71,idxR_O h73,wh75,wh77,wh106] <;> rfl) (gc_same (Nat.le_refl _))
 ·cases h
  exact stepO_out (by simp only [go_sem,seval,c99_0,St99_0,h71,Ex99_0] <;> rfl)
theorem l99_0 (a0:GPart) (a1:Bool) (v3:(Option (List Int)) × Bool) {s0:(Option (List GEl)) × Int × Bool} {d} (h:itO (s99_0 a0 a1 v3) s0=some d):X pr (.loop c99_0) (St99_0 a0 a1 v3 s0)=some (Ex99_0 a0 a1 v3 d):=X_itO (b99_0 a0 a1 v3) (fun d hh=>by cases hh) h
noncomputable def f99 (a0:GPart) (a1:Bool):Option ((Option (List GEl)) × Bool):=
 obind (f155 a0.pa a0.sa) fun v1=>
 obind (f156 v1 a1) fun v3=>
 obind (itO (s99_0 a0 a1 v3) (none,0,false)) fun d107=>
 some (d107.1,d107.2.1)
theorem W99 {a0:GPart} {a1:Bool} {r} (h:f99 a0 a1=some r):callIso pr (X pr) 99 [.agg [.str a0.name,.str a0.kd,.int .i64 a0.pa,.int .i64 a0.pb,.int .i64 a0.sa,.int .i64 a0.sb,.int .i64 a0.cost,.int .i64 a0.stock],.bool a1]=some (sl 3 vel r.1,r.2):=by
 unfold f99 at h
 obtain ⟨v1,h2,h⟩:=obind_some h
 have wh2:callIso pr (X pr) 155 [.int .i64 a0.pa,.int .i64 a0.sa]=some (.agg [.int .i64 v1.num,.int .i64 v1.den],false):=W155 h2
 obtain ⟨v3,h4,h⟩:=obind_some h
 have wh4:callIso pr (X pr) 156 [.agg [.int .i64 v1.num,.int .i64 v1.den],.bool a1]=some (sl 1 vint v3.1,v3.2):=W156 h4
 obtain ⟨d107,h108,h⟩:=obind_some h
 have wh108:X pr (.loop c99_0) ⟨[(1,.bool a1,false),(2,.vptr (.agg [.str a0.name,.str a0.kd,.int .i64 a0.pa,.int .i64 a0.pb,.int .i64 a0.sa,.int .i64 a0.sb,.int .i64 a0.cost,.int .i64 a0.stock]),false),(5,.list true 0 [],false),(17,sl 1 vint v3.1,v3.2),(18,.int .i64 ((v3.1.getD []).length:Int),false),(19,.int .i64 0,false)],[]⟩=some (.exit 0,⟨[(1,.bool a1,false),(2,.vptr (.agg [.str a0.name,.str a0.kd,.int .i64 a0.pa,.int .i64 a0.pb,.int .i64 a0.sa,.int .i64 a0.sb,.int .i64 a0.cost,.int .i64 a0.stock]),false),(5,sl 3 vel d107.1,d107.2.1),(17,sl 1 vint v3.1,v3.2),(18,.int .i64 ((v3.1.getD []).length:Int),false),(19,.int .i64 d107.2.2,false),(20,.bool false,false)],[]⟩):=l99_0 a0 a1 v3 h108
 have hr:(d107.1,d107.2.1)=r:=Option.some.inj h
 subst hr
 have this:∃ hh,callFn pr (X pr) 99 [.agg [.str a0.name,.str a0.kd,.int .i64 a0.pa,.int .i64 a0.pb,.int .i64 a0.sa,.int .i64 a0.sb,.int .i64 a0.cost,.int .i64 a0.stock],.bool a1] []=some (sl 3 vel d107.1,d107.2.1,hh):=by
  rw [callFn_at (show pr.fns 99=some c99 from rfl) (by simp)]
  simp only [go_sem,seval,c99,wh2,wh4,wh108]
  exact ⟨_,rfl⟩
 obtain ⟨hh,this⟩:=this
 exact callIso_of_dyn rfl this (by first | rfl | simp only [go_sem,seval]) (by first | rfl | simp only [go_sem,seval]) (by first | rfl | simp only [go_sem,seval])
noncomputable def s110_0 (a0:Option (List GEl)) (s0:(Option (List Int)) × Int × Bool):Option (((Option (List Int)) × Int × Bool) ⊕ (((Option (List Int)) × Bool × Int))):=
 cond (decide (s0.2.1 < ((a0.getD []).length:Int)))
  (obind (idxO (a0.getD []) s0.2.1) fun v18=>
  obind (f108y v18) fun v20=>
  cond s0.2.2
   (obind (apO s0.1 [v20]) fun v23=>
   some (.inl (v23,wrapF .i64 (s0.2.1 + 1),true)))
   (cond s0.1.isNone
    (obind (apO s0.1 [v20]) fun v26=>
    some (.inl (v26,wrapF .i64 (s0.2.1 + 1),true)))
    (none)))
  (some (.inr (s0.1,s0.2.2,s0.2.1)))
def St110_0 (a0:Option (List GEl)) (s0:(Option (List Int)) × Int × Bool):ASt:=⟨[(1,.fn (.func 108) [] [],false),(5,sl 1 vint s0.1,s0.2.2),(8,sl 3 vel a0,false),(9,.int .i64 ((a0.getD []).length:Int),false),(10,.int .i64 s0.2.1,false)],[]⟩
def Ex110_0 (a0:Option (List GEl)) (d:((Option (List Int)) × Bool × Int)):AExit × ASt:=(.exit 0,⟨[(1,.fn (.func 108) [] [],false),(5,sl 1 vint d.1,d.2.1),(8,sl 3 vel a0,false),(9,.int .i64 ((a0.getD []).length:Int),false),(10,.int .i64 d.2.2,false),(11,.bool false,false)],[]⟩)
theorem b110_0 (a0:Option (List GEl)) (s0:(Option (List Int)) × Int × Bool) (r) (h:s110_0 a0 s0=some r):stepO pr c110_0 (St110_0 a0) (Ex110_0 a0) s0 r:=by
 unfold s110_0 at h
 rcases cond_split h with ⟨h17,h⟩ | ⟨h17,h⟩
 ·obtain ⟨v18,h19,h⟩:=obind_some h
  obtain ⟨v20,h21,h⟩:=obind_some h
  have wh21:callFn pr (X pr) 108 [.agg [.str v18.kind,.int .i64 v18.a,.int .i64 v18.b]] [.cells [(.str v18.kind,false),(.int .i64 v18.a,false),(.int .i64 v18.b,false)]]=some (.int .i64 v20,false,[.cells [(.str v18.kind,false),(.int .i64 v18.a,false),(.int .i64 v18.b,false)]]):=W108y [.cells [(.str v18.kind,false),(.int .i64 v18.a,false),(.int .i64 v18.b,false)]] h21
  rcases cond_split h with ⟨h22,h⟩ | ⟨h22,h⟩
  ·obtain ⟨v23,h24,h⟩:=obind_some h
   cases h
   exact stepO_in (st':=⟨[(1,.fn (.func 108) [] [],false),(5,sl 1 vint v23,true),(8,sl 3 vel a0,false),(9,.int .i64 ((a0.getD []).length:Int),false),(10,.int .i64 (wrapF .i64 (s0.2.1 + 1)),false)],[]++[.cells [(.str v18.kind,false),(.int .i64 v18.a,false),(.int .i64 v18.b,false)]]⟩) (by simp only [go_sem,seval,c110_0,St110_0,h17,idxR_O h19,wh21,h22,app_vint_O h24] <;> rfl) (gc_over rfl rfl (by first | simp only [go_sem,seval,St110_0] | rfl) (by first | simp only [go_sem,seval,St110_0] | rfl))
  ·rcases cond_split h with ⟨h25,h⟩ | ⟨h25,h⟩
   ·obtain ⟨v26,h27,h⟩:=obind_some h
    cases h
    exact stepO_in (st':=⟨[(1,.fn (.func 108) [] [],false),(5,sl 1 vint v26,true),(8,sl 3 vel a0,false),(9,.int .i64 ((a0.getD []).length:Int),false),(10,.int .i64 (wrapF .i64 (s0.2.1 + 1)),false)],[]++[.cells [(.str v18.kind,false),(.int .i64 v18.a,false),(.int .i64 v18.b,false)]]⟩) (by simp only [go_sem,seval,c110_0,St110_0,h17,idxR_O h19,wh21,h22,h25,app_vint_N h27 h25] <;> rfl) (gc_over rfl rfl (by first | simp only [go_sem,seval,St110_0] | rfl) (by first | simp only [go_sem,seval,St110_0] | rfl))
   ·cases h
 ·cases h
  exact stepO_out (by simp only [go_sem,seval,c110_0,St110_0,h17,Ex110_0] <;> rfl)
theorem l110_0 (a0:Option (List GEl)) {s0:(Option (List Int)) × Int × Bool} {d} (h:itO (s110_0 a0) s0=some d):X pr (.loop c110_0) (St110_0 a0 s0)=some (Ex110_0 a0 d):=X_itO (b110_0 a0) (fun d hh=>by cases hh) h
noncomputable def f110 (a0:Option (List GEl)):Option ((Option (List Int)) × Bool):=
 obind (itO (s110_0 a0) (none,0,false)) fun d28=>
 some (d28.1,d28.2.1)
theorem W110 {a0:Option (List GEl)} {r} (h:f110 a0=some r):callIso pr (X pr) 110 [sl 3 vel a0,.fn (.func 108) [] []]=some (sl 1 vint r.1,r.2):=by
 unfold f110 at h
 obtain ⟨d28,h29,h⟩:=obind_some h
 have wh29:X pr (.loop c110_0) ⟨[(1,.fn (.func 108) [] [],false),(5,.list true 0 [],false),(8,sl 3 vel a0,false),(9,.int .i64 ((a0.getD []).length:Int),false),(10,.int .i64 0,false)],[]⟩=some (.exit 0,⟨[(1,.fn (.func 108) [] [],false),(5,sl 1 vint d28.1,d28.2.1),(8,sl 3 vel a0,false),(9,.int .i64 ((a0.getD []).length:Int),false),(10,.int .i64 d28.2.2,false),(11,.bool false,false)],[]⟩):=l110_0 a0 h29
 have hr:(d28.1,d28.2.1)=r:=Option.some.inj h
 subst hr
 have this:∃ hh,callFn pr (X pr) 110 [sl 3 vel a0,.fn (.func 108) [] []] []=some (sl 1 vint d28.1,d28.2.1,hh):=by
  rw [callFn_at (show pr.fns 110=some c110 from rfl) (by simp)]
  simp only [go_sem,seval,c110,wh29]
  exact ⟨_,rfl⟩
 obtain ⟨hh,this⟩:=this
 exact callIso_of_dyn rfl this (by first | rfl | simp only [go_sem,seval]) (by first | rfl | simp only [go_sem,seval]) (by first | rfl | simp only [go_sem,seval])
noncomputable def f22 (a0:GPart):Option Int:=
 obind (f107 a0.name) fun v1=>
 obind (f106 (!v1) 8) fun v3=>
 obind (f108 (⟨a0.kd,a0.pa,a0.pb⟩)) fun v5=>
 obind (f109 a0.sa 0 1) fun v7=>
 obind (f109 a0.sb 0 1) fun v9=>
 obind (f109 a0.cost 1 1000000) fun v11=>
 obind (f109 a0.stock 0 100) fun v13=>
 obind (f105 (some [v3,v5,v7,v9,v11,v13])) fun v15=>
 cond (decide (v15=0))
  (obind (f99 a0 false) fun v18=>
  obind (f110 v18.1) fun v20=>
  obind (f105 v20.1) fun v22=>
  obind (f106 (!decide (v22=0)) 1) fun v24=>
  some v24)
  (some v15)
theorem W22 {a0:GPart} {r} (h:f22 a0=some r):callIso pr (X pr) 22 [.agg [.str a0.name,.str a0.kd,.int .i64 a0.pa,.int .i64 a0.pb,.int .i64 a0.sa,.int .i64 a0.sb,.int .i64 a0.cost,.int .i64 a0.stock]]=some (.int .i64 r,false):=by
 unfold f22 at h
 obtain ⟨v1,h2,h⟩:=obind_some h
 have wh2:callIso pr (X pr) 107 [.str a0.name]=some (.bool v1,false):=W107 h2
 obtain ⟨v3,h4,h⟩:=obind_some h
 have wh4:callIso pr (X pr) 106 [.bool (!v1),.int .i64 8]=some (.int .i64 v3,false):=W106 h4
 obtain ⟨v5,h6,h⟩:=obind_some h
 have wh6:callIso pr (X pr) 108 [.agg [.str a0.kd,.int .i64 a0.pa,.int .i64 a0.pb]]=some (.int .i64 v5,false):=W108 h6
 obtain ⟨v7,h8,h⟩:=obind_some h
 have wh8:callIso pr (X pr) 109 [.int .i64 a0.sa,.int .i64 0,.int .i64 1]=some (.int .i64 v7,false):=W109 h8
 obtain ⟨v9,h10,h⟩:=obind_some h
 have wh10:callIso pr (X pr) 109 [.int .i64 a0.sb,.int .i64 0,.int .i64 1]=some (.int .i64 v9,false):=W109 h10
 obtain ⟨v11,h12,h⟩:=obind_some h
 have wh12:callIso pr (X pr) 109 [.int .i64 a0.cost,.int .i64 1,.int .i64 1000000]=some (.int .i64 v11,false):=W109 h12
 obtain ⟨v13,h14,h⟩:=obind_some h
 have wh14:callIso pr (X pr) 109 [.int .i64 a0.stock,.int .i64 0,.int .i64 100]=some (.int .i64 v13,false):=W109 h14
 obtain ⟨v15,h16,h⟩:=obind_some h
 have wh16:callIso pr (X pr) 105 [.list false 1 [.int .i64 v3,.int .i64 v5,.int .i64 v7,.int .i64 v9,.int .i64 v11,.int .i64 v13]]=some (.int .i64 v15,false):=W105 h16
 rcases cond_split h with ⟨h17,h⟩ | ⟨h17,h⟩
 ·obtain ⟨v18,h19,h⟩:=obind_some h
  have wh19:callIso pr (X pr) 99 [.agg [.str a0.name,.str a0.kd,.int .i64 a0.pa,.int .i64 a0.pb,.int .i64 a0.sa,.int .i64 a0.sb,.int .i64 a0.cost,.int .i64 a0.stock],.bool false]=some (sl 3 vel v18.1,v18.2):=W99 h19
  obtain ⟨v20,h21,h⟩:=obind_some h
  have wh21:callIso pr (X pr) 110 [sl 3 vel v18.1,.fn (.func 108) [] []]=some (sl 1 vint v20.1,v20.2):=W110 h21
  obtain ⟨v22,h23,h⟩:=obind_some h
  have wh23:callIso pr (X pr) 105 [sl 1 vint v20.1]=some (.int .i64 v22,false):=W105 h23
  obtain ⟨v24,h25,h⟩:=obind_some h
  have wh25:callIso pr (X pr) 106 [.bool (!decide (v22=0)),.int .i64 1]=some (.int .i64 v24,false):=W106 h25
  have hr:v24=r:=Option.some.inj h
  subst hr
  refine iso_F rfl ?_ (fun _=>by first | rfl | simp only [go_sem,seval]) (by first | rfl | simp only [go_sem,seval])
  rw [callFn_at (show pr.fns 22=some c22 from rfl) (by simp)]
  simp only [go_sem,seval,c22,wh2,wh4,wh6,wh8,wh10,wh12,wh14,wh16,h17,wh19,wh21,wh23,wh25]
  exact ⟨_,rfl⟩
 ·have hr:v15=r:=Option.some.inj h
  subst hr
  refine iso_F rfl ?_ (fun _=>by first | rfl | simp only [go_sem,seval]) (by first | rfl | simp only [go_sem,seval])
  rw [callFn_at (show pr.fns 22=some c22 from rfl) (by simp)]
  simp only [go_sem,seval,c22,wh2,wh4,wh6,wh8,wh10,wh12,wh14,wh16,h17]
  exact ⟨_,rfl⟩
noncomputable def s23_0 (a0:Option (List GPart)) (s0:Int × (List (List UInt8))):Option ((Int × (List (List UInt8))) ⊕ ((Int × (List (List UInt8)) × (List UInt8) × (List UInt8) × Int × Int × Int × Int × Int × Int) ⊕ (Int × (List (List UInt8))))):=
 cond (decide (s0.1 < ((a0.getD []).length:Int)))
  (obind (idxO (a0.getD []) s0.1) fun v27=>
  obind (f22 v27) fun v29=>
  obind (f106 (memS s0.2 v27.name) 9) fun v31=>
  obind (f105 (some [v29,v31])) fun v33=>
  cond (decide (v33=0))
   (obind (addS s0.2 v27.name) fun v36=>
   some (.inl (wrapF .i64 (s0.1 + 1),v36)))
   (some (.inr (.inl (v33,s0.2,v27.name,v27.kd,v27.pa,v27.pb,v27.sa,v27.sb,v27.cost,v27.stock)))))
  (some (.inr (.inr (s0.1,s0.2))))
def St23_0 (a0:Option (List GPart)) (s0:Int × (List (List UInt8))):ASt:=⟨[(3,.map 0,false),(11,sl 8 vpart a0,false),(12,.int .i64 ((a0.getD []).length:Int),false),(13,.int .i64 s0.1,false)],[.map (setOf s0.2)]⟩
def Ex23_0 (a0:Option (List GPart)):(Int × (List (List UInt8)) × (List UInt8) × (List UInt8) × Int × Int × Int × Int × Int × Int) ⊕ (Int × (List (List UInt8)))→AExit × ASt
 | .inl d=>(.ret,⟨[(2,.int .i64 d.1,false)],[.map (setOf d.2.1),.cells [(.str d.2.2.1,false),(.str d.2.2.2.1,false),(.int .i64 d.2.2.2.2.1,false),(.int .i64 d.2.2.2.2.2.1,false),(.int .i64 d.2.2.2.2.2.2.1,false),(.int .i64 d.2.2.2.2.2.2.2.1,false),(.int .i64 d.2.2.2.2.2.2.2.2.1,false),(.int .i64 d.2.2.2.2.2.2.2.2.2,false)]]⟩)
 | .inr d=>(.exit 0,⟨[(3,.map 0,false),(11,sl 8 vpart a0,false),(12,.int .i64 ((a0.getD []).length:Int),false),(13,.int .i64 d.1,false),(14,.bool false,false)],[.map (setOf d.2)]⟩)
theorem b23_0 (a0:Option (List GPart)) (s0:Int × (List (List UInt8))) (r) (h:s23_0 a0 s0=some r):stepO pr c23_0 (St23_0 a0) (Ex23_0 a0) s0 r:=by
 unfold s23_0 at h
 rcases cond_split h with ⟨h26,h⟩ | ⟨h26,h⟩
 ·obtain ⟨v27,h28,h⟩:=obind_some h
  obtain ⟨v29,h30,h⟩:=obind_some h
  have wh30:callIso pr (X pr) 22 [.agg [.str v27.name,.str v27.kd,.int .i64 v27.pa,.int .i64 v27.pb,.int .i64 v27.sa,.int .i64 v27.sb,.int .i64 v27.cost,.int .i64 v27.stock]]=some (.int .i64 v29,false):=W22 h30
  obtain ⟨v31,h32,h⟩:=obind_some h
  have wh32:callIso pr (X pr) 106 [.bool (memS s0.2 v27.name),.int .i64 9]=some (.int .i64 v31,false):=W106 h32
  obtain ⟨v33,h34,h⟩:=obind_some h
  have wh34:callIso pr (X pr) 105 [.list false 1 [.int .i64 v29,.int .i64 v31]]=some (.int .i64 v33,false):=W105 h34
  rcases cond_split h with ⟨h35,h⟩ | ⟨h35,h⟩
  ·obtain ⟨v36,h37,h⟩:=obind_some h
   cases h
   exact stepO_in (st':=⟨[(3,.map 0,false),(11,sl 8 vpart a0,false),(12,.int .i64 ((a0.getD []).length:Int),false),(13,.int .i64 (wrapF .i64 (s0.1 + 1)),false)],[.map (setOf v36)]++[.cells [(.str v27.name,false),(.str v27.kd,false),(.int .i64 v27.pa,false),(.int .i64 v27.pb,false),(.int .i64 v27.sa,false),(.int .i64 v27.sb,false),(.int .i64 v27.cost,false),(.int .i64 v27.stock,false)]]⟩) (by simp only [go_sem,seval,c23_0,St23_0,h26,idxR_O h28,wh30,lookS,wh32,wh34,h35,updS_O h37] <;> rfl) (gc_over rfl rfl (by first | simp only [go_sem,seval,St23_0] | rfl) (by first | simp only [go_sem,seval,St23_0] | rfl))
  ·cases h
   exact stepO_out (by simp only [go_sem,seval,c23_0,St23_0,h26,idxR_O h28,wh30,lookS,wh32,wh34,h35,Ex23_0] <;> rfl)
 ·cases h
  exact stepO_out (by simp only [go_sem,seval,c23_0,St23_0,h26,Ex23_0] <;> rfl)
theorem l23_0 (a0:Option (List GPart)) {s0:Int × (List (List UInt8))} {d} (h:itO (s23_0 a0) s0=some d):X pr (.loop c23_0) (St23_0 a0 s0)=some (Ex23_0 a0 d):=X_itO (b23_0 a0) (fun d=>by rcases d with d|d <;> (intro hh; cases hh)) h
noncomputable def f23 (a0:Option (List GPart)):Option Int:=
 cond (decide (6 < ((a0.getD []).length:Int)))
  (some 5)
  (obind (itO (s23_0 a0) (0,[])) fun d38=>match d38 with
   | .inl d40=>
    some d40.1
   | .inr d41=>
    some 0)
theorem W23 {a0:Option (List GPart)} {r} (h:f23 a0=some r):callIso pr (X pr) 23 [sl 8 vpart a0]=some (.int .i64 r,false):=by
 unfold f23 at h
 rcases cond_split h with ⟨h1,h⟩ | ⟨h1,h⟩
 ·have hr:5=r:=Option.some.inj h
  subst hr
  refine iso_F rfl ?_ (fun _=>by first | rfl | simp only [go_sem,seval]) (by first | rfl | simp only [go_sem,seval])
  rw [callFn_at (show pr.fns 23=some c23 from rfl) (by simp)]
  simp only [go_sem,seval,c23,h1]
  exact ⟨_,rfl⟩
 ·obtain ⟨d38,h39,h⟩:=obind_some h
  rcases d38 with d40 | d41
  ·have wh39:X pr (.loop c23_0) ⟨[(3,.map 0,false),(11,sl 8 vpart a0,false),(12,.int .i64 ((a0.getD []).length:Int),false),(13,.int .i64 0,false)],[.map (setOf [])]⟩=some (.ret,⟨[(2,.int .i64 d40.1,false)],[.map (setOf d40.2.1),.cells [(.str d40.2.2.1,false),(.str d40.2.2.2.1,false),(.int .i64 d40.2.2.2.2.1,false),(.int .i64 d40.2.2.2.2.2.1,false),(.int .i64 d40.2.2.2.2.2.2.1,false),(.int .i64 d40.2.2.2.2.2.2.2.1,false),(.int .i64 d40.2.2.2.2.2.2.2.2.1,false),(.int .i64 d40.2.2.2.2.2.2.2.2.2,false)]]⟩):=l23_0 a0 h39
   have hr:d40.1=r:=Option.some.inj h
   subst hr
   refine iso_F rfl ?_ (fun _=>by first | rfl | simp only [go_sem,seval]) (by first | rfl | simp only [go_sem,seval])
   rw [callFn_at (show pr.fns 23=some c23 from rfl) (by simp)]
   simp only [go_sem,seval,c23,h1,mkmapS,wh39]
   exact ⟨_,rfl⟩
  ·have wh39:X pr (.loop c23_0) ⟨[(3,.map 0,false),(11,sl 8 vpart a0,false),(12,.int .i64 ((a0.getD []).length:Int),false),(13,.int .i64 0,false)],[.map (setOf [])]⟩=some (.exit 0,⟨[(3,.map 0,false),(11,sl 8 vpart a0,false),(12,.int .i64 ((a0.getD []).length:Int),false),(13,.int .i64 d41.1,false),(14,.bool false,false)],[.map (setOf d41.2)]⟩):=l23_0 a0 h39
   have hr:0=r:=Option.some.inj h
   subst hr
   refine iso_F rfl ?_ (fun _=>by first | rfl | simp only [go_sem,seval]) (by first | rfl | simp only [go_sem,seval])
   rw [callFn_at (show pr.fns 23=some c23 from rfl) (by simp)]
   simp only [go_sem,seval,c23,h1,mkmapS,wh39]
   exact ⟨_,rfl⟩
noncomputable def f101 (a0:Bool) (a1:Int):Option Int:=
 cond a0
  (some a1)
  (some 0)
theorem W101 {a0:Bool} {a1:Int} {r} (h:f101 a0 a1=some r):callIso pr (X pr) 101 [.bool a0,.int .i64 a1]=some (.int .i64 r,false):=by
 unfold f101 at h
 rcases cond_split h with ⟨h1,h⟩ | ⟨h1,h⟩
 ·have hr:a1=r:=Option.some.inj h
  subst hr
  refine iso_F rfl ?_ (fun _=>by first | rfl | simp only [go_sem,seval]) (by first | rfl | simp only [go_sem,seval])
  rw [callFn_at (show pr.fns 101=some c101 from rfl) (by simp)]
  simp only [go_sem,seval,c101,h1]
  exact ⟨_,rfl⟩
 ·have hr:0=r:=Option.some.inj h
  subst hr
  refine iso_F rfl ?_ (fun _=>by first | rfl | simp only [go_sem,seval]) (by first | rfl | simp only [go_sem,seval])
  rw [callFn_at (show pr.fns 101=some c101 from rfl) (by simp)]
  simp only [go_sem,seval,c101,h1]
  exact ⟨_,rfl⟩
noncomputable def s100_0 (a0:Option (List Int)) (s0:Int):Option (Int ⊕ (Int ⊕ Int)):=
 cond (decide (s0 < ((a0.getD []).length:Int)))
  (obind (idxO (a0.getD []) s0) fun v10=>
  cond (decide (v10=0))
   (some (.inl (wrapF .i64 (s0 + 1))))
   (some (.inr (.inl v10))))
  (some (.inr (.inr s0)))
def St100_0 (a0:Option (List Int)) (s0:Int):ASt:=⟨[(0,sl 1 vint a0,false),(3,.int .i64 s0,false)],[]⟩
def Ex100_0 (a0:Option (List Int)):Int ⊕ Int→AExit × ASt
 | .inl d=>(.ret,⟨[(2,.int .i64 d,false)],[]⟩)
 | .inr d=>(.exit 0,⟨[(0,sl 1 vint a0,false),(3,.int .i64 d,false),(7,.bool false,false)],[]⟩)
theorem b100_0 (a0:Option (List Int)) (s0:Int) (r) (h:s100_0 a0 s0=some r):stepO pr c100_0 (St100_0 a0) (Ex100_0 a0) s0 r:=by
 unfold s100_0 at h
 rcases cond_split h with ⟨h9,h⟩ | ⟨h9,h⟩
 ·obtain ⟨v10,h11,h⟩:=obind_some h
  rcases cond_split h with ⟨h12,h⟩ | ⟨h12,h⟩
  ·cases h
   exact stepO_in (st':=⟨[(0,sl 1 vint a0,false),(3,.int .i64 (wrapF .i64 (s0 + 1)),false)],[]⟩) (by simp only [go_sem,seval,c100_0,St100_0,h9,idxR_O h11,h12] <;> rfl) (gc_same (Nat.le_refl _))
  ·cases h
   exact stepO_out (by simp only [go_sem,seval,c100_0,St100_0,h9,idxR_O h11,h12,Ex100_0] <;> rfl)
 ·cases h
  exact stepO_out (by simp only [go_sem,seval,c100_0,St100_0,h9,Ex100_0] <;> rfl)
theorem l100_0 (a0:Option (List Int)) {s0:Int} {d} (h:itO (s100_0 a0) s0=some d):X pr (.loop c100_0) (St100_0 a0 s0)=some (Ex100_0 a0 d):=X_itO (b100_0 a0) (fun d=>by rcases d with d|d <;> (intro hh; cases hh)) h
noncomputable def f100 (a0:Option (List Int)):Option Int:=
 obind (itO (s100_0 a0) 0) fun d13=>match d13 with
  | .inl d15=>
   some d15
  | .inr d16=>
   some 0
theorem W100 {a0:Option (List Int)} {r} (h:f100 a0=some r):callIso pr (X pr) 100 [sl 1 vint a0]=some (.int .i64 r,false):=by
 unfold f100 at h
 obtain ⟨d13,h14,h⟩:=obind_some h
 rcases d13 with d15 | d16
 ·have wh14:X pr (.loop c100_0) ⟨[(0,sl 1 vint a0,false),(3,.int .i64 0,false)],[]⟩=some (.ret,⟨[(2,.int .i64 d15,false)],[]⟩):=l100_0 a0 h14
  have hr:d15=r:=Option.some.inj h
  subst hr
  refine iso_F rfl ?_ (fun _=>by first | rfl | simp only [go_sem,seval]) (by first | rfl | simp only [go_sem,seval])
  rw [callFn_at (show pr.fns 100=some c100 from rfl) (by simp)]
  simp only [go_sem,seval,c100,wh14]
  exact ⟨_,rfl⟩
 ·have wh14:X pr (.loop c100_0) ⟨[(0,sl 1 vint a0,false),(3,.int .i64 0,false)],[]⟩=some (.exit 0,⟨[(0,sl 1 vint a0,false),(3,.int .i64 d16,false),(7,.bool false,false)],[]⟩):=l100_0 a0 h14
  have hr:0=r:=Option.some.inj h
  subst hr
  refine iso_F rfl ?_ (fun _=>by first | rfl | simp only [go_sem,seval]) (by first | rfl | simp only [go_sem,seval])
  rw [callFn_at (show pr.fns 100=some c100 from rfl) (by simp)]
  simp only [go_sem,seval,c100,wh14]
  exact ⟨_,rfl⟩
noncomputable def f40 (a0:Int) (a1:Int) (a2:Int):Option Int:=
 cond (decide (a0 < a1))
  (some 3)
  (cond (decide (a2 < a0))
   (some 3)
   (some 0))
theorem W40 {a0:Int} {a1:Int} {a2:Int} {r} (h:f40 a0 a1 a2=some r):callIso pr (X pr) 40 [.int .i64 a0,.int .i64 a1,.int .i64 a2]=some (.int .i64 r,false):=by
 unfold f40 at h
 rcases cond_split h with ⟨h1,h⟩ | ⟨h1,h⟩
 ·have hr:3=r:=Option.some.inj h
  subst hr
  refine iso_F rfl ?_ (fun _=>by first | rfl | simp only [go_sem,seval]) (by first | rfl | simp only [go_sem,seval])
  rw [callFn_at (show pr.fns 40=some c40 from rfl) (by simp)]
  simp only [go_sem,seval,c40,h1]
  exact ⟨_,rfl⟩
 ·rcases cond_split h with ⟨h2,h⟩ | ⟨h2,h⟩
  ·have hr:3=r:=Option.some.inj h
   subst hr
   refine iso_F rfl ?_ (fun _=>by first | rfl | simp only [go_sem,seval]) (by first | rfl | simp only [go_sem,seval])
   rw [callFn_at (show pr.fns 40=some c40 from rfl) (by simp)]
   simp only [go_sem,seval,c40,h1,h2]
   exact ⟨_,rfl⟩
  ·have hr:0=r:=Option.some.inj h
   subst hr
   refine iso_F rfl ?_ (fun _=>by first | rfl | simp only [go_sem,seval]) (by first | rfl | simp only [go_sem,seval])
   rw [callFn_at (show pr.fns 40=some c40 from rfl) (by simp)]
   simp only [go_sem,seval,c40,h1,h2]
   exact ⟨_,rfl⟩
noncomputable def s191_0 (a0:Option (List (List UInt8))) (a1:List UInt8) (s0:Int):Option (Int ⊕ (Unit ⊕ Int)):=
 cond (decide (s0 < ((a0.getD []).length:Int)))
  (obind (idxO (a0.getD []) s0) fun v10=>
  cond (decide (v10=a1))
   (some (.inr (.inl ())))
   (some (.inl (wrapF .i64 (s0 + 1)))))
  (some (.inr (.inr s0)))
def St191_0 (a0:Option (List (List UInt8))) (a1:List UInt8) (s0:Int):ASt:=⟨[(0,sl 1 vstr a0,false),(1,.str a1,false),(5,.int .i64 s0,false)],[]⟩
def Ex191_0 (a0:Option (List (List UInt8))) (a1:List UInt8):Unit ⊕ Int→AExit × ASt
 | .inl d=>(.ret,⟨[(4,.bool true,false)],[]⟩)
 | .inr d=>(.exit 0,⟨[(0,sl 1 vstr a0,false),(1,.str a1,false),(5,.int .i64 d,false),(9,.bool false,false)],[]⟩)
theorem b191_0 (a0:Option (List (List UInt8))) (a1:List UInt8) (s0:Int) (r) (h:s191_0 a0 a1 s0=some r):stepO pr c191_0 (St191_0 a0 a1) (Ex191_0 a0 a1) s0 r:=by
 unfold s191_0 at h
 rcases cond_split h with ⟨h9,h⟩ | ⟨h9,h⟩
 ·obtain ⟨v10,h11,h⟩:=obind_some h
  rcases cond_split h with ⟨h12,h⟩ | ⟨h12,h⟩
  ·cases h
   exact stepO_out (by simp only [go_sem,seval,c191_0,St191_0,h9,idxR_O h11,h12,Ex191_0] <;> rfl)
  ·cases h
   exact stepO_in (st':=⟨[(0,sl 1 vstr a0,false),(1,.str a1,false),(5,.int .i64 (wrapF .i64 (s0 + 1)),false)],[]⟩) (by simp only [go_sem,seval,c191_0,St191_0,h9,idxR_O h11,h12] <;> rfl) (gc_same (Nat.le_refl _))
 ·cases h
  exact stepO_out (by simp only [go_sem,seval,c191_0,St191_0,h9,Ex191_0] <;> rfl)
theorem l191_0 (a0:Option (List (List UInt8))) (a1:List UInt8) {s0:Int} {d} (h:itO (s191_0 a0 a1) s0=some d):X pr (.loop c191_0) (St191_0 a0 a1 s0)=some (Ex191_0 a0 a1 d):=X_itO (b191_0 a0 a1) (fun d=>by rcases d with d|d <;> (intro hh; cases hh)) h
noncomputable def f191 (a0:Option (List (List UInt8))) (a1:List UInt8):Option Bool:=
 obind (itO (s191_0 a0 a1) 0) fun d13=>match d13 with
  | .inl d15=>
   some true
  | .inr d16=>
   some false
theorem W191 {a0:Option (List (List UInt8))} {a1:List UInt8} {r} (h:f191 a0 a1=some r):callIso pr (X pr) 191 [sl 1 vstr a0,.str a1]=some (.bool r,false):=by
 unfold f191 at h
 obtain ⟨d13,h14,h⟩:=obind_some h
 rcases d13 with d15 | d16
 ·have wh14:X pr (.loop c191_0) ⟨[(0,sl 1 vstr a0,false),(1,.str a1,false),(5,.int .i64 0,false)],[]⟩=some (.ret,⟨[(4,.bool true,false)],[]⟩):=l191_0 a0 a1 h14
  have hr:true=r:=Option.some.inj h
  subst hr
  refine iso_F rfl ?_ (fun _=>by first | rfl | simp only [go_sem,seval]) (by first | rfl | simp only [go_sem,seval])
  rw [callFn_at (show pr.fns 191=some c191 from rfl) (by simp)]
  simp only [go_sem,seval,c191,wh14]
  exact ⟨_,rfl⟩
 ·have wh14:X pr (.loop c191_0) ⟨[(0,sl 1 vstr a0,false),(1,.str a1,false),(5,.int .i64 0,false)],[]⟩=some (.exit 0,⟨[(0,sl 1 vstr a0,false),(1,.str a1,false),(5,.int .i64 d16,false),(9,.bool false,false)],[]⟩):=l191_0 a0 a1 h14
  have hr:false=r:=Option.some.inj h
  subst hr
  refine iso_F rfl ?_ (fun _=>by first | rfl | simp only [go_sem,seval]) (by first | rfl | simp only [go_sem,seval])
  rw [callFn_at (show pr.fns 191=some c191 from rfl) (by simp)]
  simp only [go_sem,seval,c191,wh14]
  exact ⟨_,rfl⟩
noncomputable def f192:Option (Option (List (List UInt8))):=
 some (some [([98,108,111,99,107]:List UInt8),([115,101,114,105,101,115]:List UInt8),([115,104,117,110,116]:List UInt8),([116,114,97,112]:List UInt8)])
theorem W192 {r} (h:f192=some r):callIso pr (X pr) 192 []=some (sl 1 vstr r,true):=by
 unfold f192 at h
 have hr:some [([98,108,111,99,107]:List UInt8),([115,101,114,105,101,115]:List UInt8),([115,104,117,110,116]:List UInt8),([116,114,97,112]:List UInt8)]=r:=Option.some.inj h
 subst hr
 have this:∃ hh,callFn pr (X pr) 192 [] []=some (.list false 1 [.str ([98,108,111,99,107]:List UInt8),.str ([115,101,114,105,101,115]:List UInt8),.str ([115,104,117,110,116]:List UInt8),.str ([116,114,97,112]:List UInt8)],true,hh):=by
  rw [callFn_at (show pr.fns 192=some c192 from rfl) (by simp)]
  simp only [go_sem,seval,c192]
  exact ⟨_,rfl⟩
 obtain ⟨hh,this⟩:=this
 exact callIso_of_dyn rfl this (by first | rfl | simp only [go_sem,seval]) (by first | rfl | simp only [go_sem,seval]) (by first | rfl | simp only [go_sem,seval])
noncomputable def f55 (a0:List UInt8):Option Bool:=
 cond (decide (a0=([98,108,111,99,107]:List UInt8)))
  (some true)
  (some (decide (a0=([116,114,97,112]:List UInt8))))
theorem W55 {a0:List UInt8} {r} (h:f55 a0=some r):callIso pr (X pr) 55 [.str a0]=some (.bool r,false):=by
 unfold f55 at h
 rcases cond_split h with ⟨h1,h⟩ | ⟨h1,h⟩
 ·have hr:true=r:=Option.some.inj h
  subst hr
  refine iso_F rfl ?_ (fun _=>by first | rfl | simp only [go_sem,seval]) (by first | rfl | simp only [go_sem,seval])
  rw [callFn_at (show pr.fns 55=some c55 from rfl) (by simp)]
  simp only [go_sem,seval,c55,h1]
  exact ⟨_,rfl⟩
 ·have hr:decide (a0=([116,114,97,112]:List UInt8))=r:=Option.some.inj h
  subst hr
  refine iso_F rfl ?_ (fun _=>by first | rfl | simp only [go_sem,seval]) (by first | rfl | simp only [go_sem,seval])
  rw [callFn_at (show pr.fns 55=some c55 from rfl) (by simp)]
  simp only [go_sem,seval,c55,h1]
  exact ⟨_,rfl⟩
noncomputable def f157 (a0:GEl):Option Int:=
 obind (f192) fun v1=>
 obind (f191 v1 a0.kind) fun v3=>
 cond v3
  (obind (f40 a0.a 0 8) fun v6=>
  obind (f40 a0.b 0 8) fun v8=>
  obind (f100 (some [v6,v8])) fun v10=>
  cond (decide (v10=0))
   (obind (f55 a0.kind) fun v13=>
   cond v13
    (cond (decide (a0.a=0))
     (cond (decide (a0.b=0))
      (some 6)
      (some 0))
     (some 0))
    (some 0))
   (some v10))
  (some 13)
theorem W157 {a0:GEl} {r} (h:f157 a0=some r):callIso pr (X pr) 157 [.agg [.str a0.kind,.int .i64 a0.a,.int .i64 a0.b]]=some (.int .i64 r,false):=by
 unfold f157 at h
 obtain ⟨v1,h2,h⟩:=obind_some h
 obtain ⟨v3,h4,h⟩:=obind_some h
 have wh4:callIso pr (X pr) 191 [sl 1 vstr v1,.str a0.kind]=some (.bool v3,false):=W191 h4
 rcases cond_split h with ⟨h5,h⟩ | ⟨h5,h⟩
 ·obtain ⟨v6,h7,h⟩:=obind_some h
  have wh7:callIso pr (X pr) 40 [.int .i64 a0.a,.int .i64 0,.int .i64 8]=some (.int .i64 v6,false):=W40 h7
  obtain ⟨v8,h9,h⟩:=obind_some h
  have wh9:callIso pr (X pr) 40 [.int .i64 a0.b,.int .i64 0,.int .i64 8]=some (.int .i64 v8,false):=W40 h9
  obtain ⟨v10,h11,h⟩:=obind_some h
  have wh11:callIso pr (X pr) 100 [.list false 1 [.int .i64 v6,.int .i64 v8]]=some (.int .i64 v10,false):=W100 h11
  rcases cond_split h with ⟨h12,h⟩ | ⟨h12,h⟩
  ·obtain ⟨v13,h14,h⟩:=obind_some h
   have wh14:callIso pr (X pr) 55 [.str a0.kind]=some (.bool v13,false):=W55 h14
   rcases cond_split h with ⟨h15,h⟩ | ⟨h15,h⟩
   ·rcases cond_split h with ⟨h16,h⟩ | ⟨h16,h⟩
    ·rcases cond_split h with ⟨h17,h⟩ | ⟨h17,h⟩
     ·have hr:6=r:=Option.some.inj h
      subst hr
      refine iso_F rfl ?_ (fun _=>by first | rfl | simp only [go_sem,seval]) (by first | rfl | simp only [go_sem,seval])
      rw [callFn_at (show pr.fns 157=some c157 from rfl) (by simp)]
      simp only [go_sem,seval,c157,W192 h2,wh4,h5,wh7,wh9,wh11,h12,wh14,h15,h16,h17]
      exact ⟨_,rfl⟩
     ·have hr:0=r:=Option.some.inj h
      subst hr
      refine iso_F rfl ?_ (fun _=>by first | rfl | simp only [go_sem,seval]) (by first | rfl | simp only [go_sem,seval])
      rw [callFn_at (show pr.fns 157=some c157 from rfl) (by simp)]
      simp only [go_sem,seval,c157,W192 h2,wh4,h5,wh7,wh9,wh11,h12,wh14,h15,h16,h17]
      exact ⟨_,rfl⟩
    ·have hr:0=r:=Option.some.inj h
     subst hr
     refine iso_F rfl ?_ (fun _=>by first | rfl | simp only [go_sem,seval]) (by first | rfl | simp only [go_sem,seval])
     rw [callFn_at (show pr.fns 157=some c157 from rfl) (by simp)]
     simp only [go_sem,seval,c157,W192 h2,wh4,h5,wh7,wh9,wh11,h12,wh14,h15,h16]
     exact ⟨_,rfl⟩
   ·have hr:0=r:=Option.some.inj h
    subst hr
    refine iso_F rfl ?_ (fun _=>by first | rfl | simp only [go_sem,seval]) (by first | rfl | simp only [go_sem,seval])
    rw [callFn_at (show pr.fns 157=some c157 from rfl) (by simp)]
    simp only [go_sem,seval,c157,W192 h2,wh4,h5,wh7,wh9,wh11,h12,wh14,h15]
    exact ⟨_,rfl⟩
  ·have hr:v10=r:=Option.some.inj h
   subst hr
   refine iso_F rfl ?_ (fun _=>by first | rfl | simp only [go_sem,seval]) (by first | rfl | simp only [go_sem,seval])
   rw [callFn_at (show pr.fns 157=some c157 from rfl) (by simp)]
   simp only [go_sem,seval,c157,W192 h2,wh4,h5,wh7,wh9,wh11,h12]
   exact ⟨_,rfl⟩
 ·have hr:13=r:=Option.some.inj h
  subst hr
  refine iso_F rfl ?_ (fun _=>by first | rfl | simp only [go_sem,seval]) (by first | rfl | simp only [go_sem,seval])
  rw [callFn_at (show pr.fns 157=some c157 from rfl) (by simp)]
  simp only [go_sem,seval,c157,W192 h2,wh4,h5]
  exact ⟨_,rfl⟩
noncomputable def s103_0 (a0:Option (List GEl)) (s0:Int):Option (Int ⊕ (Int ⊕ Int)):=
 cond (decide (s0 < ((a0.getD []).length:Int)))
  (obind (idxO (a0.getD []) s0) fun v15=>
  obind (f157 v15) fun v17=>
  cond (decide (v17=0))
   (some (.inl (wrapF .i64 (s0 + 1))))
   (some (.inr (.inl v17))))
  (some (.inr (.inr s0)))
def St103_0 (a0:Option (List GEl)) (s0:Int):ASt:=⟨[(0,sl 3 vel a0,false),(3,.int .i64 s0,false)],[]⟩
def Ex103_0 (a0:Option (List GEl)):Int ⊕ Int→AExit × ASt
 | .inl d=>(.ret,⟨[(2,.int .i64 d,false)],[]⟩)
 | .inr d=>(.exit 0,⟨[(0,sl 3 vel a0,false),(3,.int .i64 d,false),(11,.bool false,false)],[]⟩)
theorem b103_0 (a0:Option (List GEl)) (s0:Int) (r) (h:s103_0 a0 s0=some r):stepO pr c103_0 (St103_0 a0) (Ex103_0 a0) s0 r:=by
 unfold s103_0 at h
 rcases cond_split h with ⟨h14,h⟩ | ⟨h14,h⟩
 ·obtain ⟨v15,h16,h⟩:=obind_some h
  obtain ⟨v17,h18,h⟩:=obind_some h
  have wh18:callIso pr (X pr) 157 [.agg [.str v15.kind,.int .i64 v15.a,.int .i64 v15.b]]=some (.int .i64 v17,false):=W157 h18
  rcases cond_split h with ⟨h19,h⟩ | ⟨h19,h⟩
  ·cases h
   exact stepO_in (st':=⟨[(0,sl 3 vel a0,false),(3,.int .i64 (wrapF .i64 (s0 + 1)),false)],[]⟩) (by simp only [go_sem,seval,c103_0,St103_0,h14,idxR_O h16,wh18,h19] <;> rfl) (gc_same (Nat.le_refl _))
  ·cases h
   exact stepO_out (by simp only [go_sem,seval,c103_0,St103_0,h14,idxR_O h16,wh18,h19,Ex103_0] <;> rfl)
 ·cases h
  exact stepO_out (by simp only [go_sem,seval,c103_0,St103_0,h14,Ex103_0] <;> rfl)
theorem l103_0 (a0:Option (List GEl)) {s0:Int} {d} (h:itO (s103_0 a0) s0=some d):X pr (.loop c103_0) (St103_0 a0 s0)=some (Ex103_0 a0 d):=X_itO (b103_0 a0) (fun d=>by rcases d with d|d <;> (intro hh; cases hh)) h
noncomputable def f103 (a0:Option (List GEl)):Option Int:=
 cond (decide (5 < ((a0.getD []).length:Int)))
  (some 5)
  (obind (itO (s103_0 a0) 0) fun d20=>match d20 with
   | .inl d22=>
    some d22
   | .inr d23=>
    some 0)
theorem W103 {a0:Option (List GEl)} {r} (h:f103 a0=some r):callIso pr (X pr) 103 [sl 3 vel a0]=some (.int .i64 r,false):=by
 unfold f103 at h
 rcases cond_split h with ⟨h1,h⟩ | ⟨h1,h⟩
 ·have hr:5=r:=Option.some.inj h
  subst hr
  refine iso_F rfl ?_ (fun _=>by first | rfl | simp only [go_sem,seval]) (by first | rfl | simp only [go_sem,seval])
  rw [callFn_at (show pr.fns 103=some c103 from rfl) (by simp)]
  simp only [go_sem,seval,c103,h1]
  exact ⟨_,rfl⟩
 ·obtain ⟨d20,h21,h⟩:=obind_some h
  rcases d20 with d22 | d23
  ·have wh21:X pr (.loop c103_0) ⟨[(0,sl 3 vel a0,false),(3,.int .i64 0,false)],[]⟩=some (.ret,⟨[(2,.int .i64 d22,false)],[]⟩):=l103_0 a0 h21
   have hr:d22=r:=Option.some.inj h
   subst hr
   refine iso_F rfl ?_ (fun _=>by first | rfl | simp only [go_sem,seval]) (by first | rfl | simp only [go_sem,seval])
   rw [callFn_at (show pr.fns 103=some c103 from rfl) (by simp)]
   simp only [go_sem,seval,c103,h1,wh21]
   exact ⟨_,rfl⟩
  ·have wh21:X pr (.loop c103_0) ⟨[(0,sl 3 vel a0,false),(3,.int .i64 0,false)],[]⟩=some (.exit 0,⟨[(0,sl 3 vel a0,false),(3,.int .i64 d23,false),(11,.bool false,false)],[]⟩):=l103_0 a0 h21
   have hr:0=r:=Option.some.inj h
   subst hr
   refine iso_F rfl ?_ (fun _=>by first | rfl | simp only [go_sem,seval]) (by first | rfl | simp only [go_sem,seval])
   rw [callFn_at (show pr.fns 103=some c103 from rfl) (by simp)]
   simp only [go_sem,seval,c103,h1,wh21]
   exact ⟨_,rfl⟩
end Go.Z
