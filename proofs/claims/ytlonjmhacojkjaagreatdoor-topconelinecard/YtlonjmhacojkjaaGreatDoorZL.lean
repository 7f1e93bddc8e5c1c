/-
  The abstract program is the given one; what plain data comes in.
-/
import Derived.Test.YtlonjmhacojkjaaGreatDoorL2
import Derived.Test.YtlonjmhacojkjaaGreatDoorZWI
import Derived.Test.YtlonjmhacojkjaaGreatDoorZP
import Derived.Test.YtlonjmhacojkjaaGreatDoorAbsH
import Derived.Test.YtlonjmhacojkjaaGreatDoorRows
import Derived.WalkKit
import Derived.ProofKit
import Derived.Test.YtlonjmhacojkjaaGreatDoorZS
import Derived.Lib.AppendIntMem
import Derived.Lib.SplitLaws
import Derived.Test.YtlonjmhacojkjaaGreatDoorG0m
import Derived.Test.YtlonjmhacojkjaaGreatDoorR1
set_option linter.unusedVariables false
set_option linter.unusedSimpArgs false
set_option maxRecDepth 100000
namespace Go.Z
open Go Go.Abs Go.Proofs
theorem enters_of {k:Nat} {f:AFun} (h:Is k f):Abs.Enters Tryz.prog k:=by
 obtain ⟨fn,hh,h1,h2⟩:=h
 obtain ⟨c,g1,g2,g3,g4,g5⟩:=cFun_inv h2
 exact ⟨fn,h1,g5,by rw [g1]; rfl⟩
theorem enters_tree {k:Nat} (h:(tree.find k).isSome=true):Abs.Enters Tryz.prog k:=by
 obtain ⟨f,hf⟩:=Option.isSome_iff_exists.1 h
 exact enters_of (FTree.find_all all hf)
theorem tab_in:∀ (t:List (Nat × List Row)),(t.all fun p=>(tree.find p.1).isSome)=true→∀ k l,lookTab t k=some l→(tree.find k).isSome=true
 | (j,m)::t,h,k,l,hk=>by
  simp only [List.all_cons,Bool.and_eq_true] at h
  simp only [lookTab,Bool.cond_eq_ite] at hk
  split at hk
  ·next hb=>rw [← Nat.eq_of_beq_eq_true hb]; exact h.1
  ·exact tab_in t h.2 k l hk
theorem awakeIso:IsoCall Tryz.prog 5 [] (.bool true) false:=
 iso_of_run (progOk_tab ok0 (tabOk ok0) fun k l hk=>enters_tree (tab_in tabL (by kernel_rfl) k l hk)) awakeRun
theorem okPr:ProgOk Tryz.prog pr where
 fn:=ok0.fn
 prim:=by
  intro k f hf
  have:k=5∧f=awakeT:=by
   simp only [pr,FTree.prog,Bool.cond_eq_ite] at hf
   split at hf
   ·next hb=>exact ⟨Nat.eq_of_beq_eq_true hb,by simpa using hf.symm⟩
   ·cases hf
  obtain ⟨rfl,rfl⟩:=this
  refine ⟨enters_tree (by kernel_rfl),?_⟩
  intro args v o hv _ _
  cases args with
  | nil=>cases hv; exact awakeIso
  | cons a l=>cases hv
 mixed:=ok0.mixed
end Go.Z
/-
 The library's functions in the abstract machine: their contracts.
-/
namespace Go.Z
open Go Go.Abs Go.Proofs Go.RowKit
theorem ext_below {w w':World} (h:Below w.heap.size w w'):Ext w w':=⟨h.size,h.block,h.os,h.output⟩
theorem itoa_iso {n:Int} (h0:-9223372036854775808≤n) (h1:n≤9223372036854775807):IsoCall Tryz.prog 36 [.int .i64 n] (.str (Lib.itoa n)) false:=by
 refine iso_plain fun K w vs ht hk hr=>?_
 cases hr with
 | cons _ _ v vs hx hr=>
  cases hr
  obtain rfl:=Rep.int_inv hx
  have hg:Tryz.prog.globalNamed tabName=some 1:=by kernel_rfl
  refine ⟨.string ⟨⟨Lib.itoa n⟩⟩,.str _,(Tryz.strconv_Itoa n h0 h1 w (ht.table hg)).mono ?_⟩
  rintro e w' ⟨rfl,k,os,rfl⟩
  exact ⟨rfl,ext_below (Lib.below_grow w.heap.size w (Nat.le_refl _) k os)⟩
theorem cutSuffix_iso {s p:List UInt8} (hs:s.length≤9223372036854775807):IsoCall Tryz.prog 39 [.str s,.str p] (.tup [.str (Lib.trimSuffix s p),.bool (Lib.hasSuffix s p)]) false:=by
 refine iso_plain fun K w vs ht hk hr=>?_
 cases hr with
 | cons _ _ v vs hx hr=>
  cases hr with
  | cons _ _ v2 vs hx2 hr=>
   cases hr
   obtain rfl:=Rep.str_inv hx
   obtain rfl:=Rep.str_inv hx2
   refine ⟨_,.tup _ [_,_] (.cons _ _ _ _ (.str _) (.cons _ _ _ _ (.bool _) .nil)),(Tryz.strings_CutSuffix ⟨⟨s⟩⟩ ⟨⟨p⟩⟩ w hs).mono ?_⟩
   rintro e w' ⟨rfl,rfl⟩
   exact ⟨rfl,Ext.refl _⟩
theorem cutPrefix_iso {s p:List UInt8}:IsoCall Tryz.prog 115 [.str s,.str p] (.tup [.str (Lib.trimPrefix s p),.bool (Lib.hasPrefix s p)]) false:=by
 refine iso_plain fun K w vs ht hk hr=>?_
 cases hr with
 | cons _ _ v vs hx hr=>
  cases hr with
  | cons _ _ v2 vs hx2 hr=>
   cases hr
   obtain rfl:=Rep.str_inv hx
   obtain rfl:=Rep.str_inv hx2
   refine ⟨_,.tup _ [_,_] (.cons _ _ _ _ (.str _) (.cons _ _ _ _ (.bool _) .nil)),(Tryz.strings_CutPrefix ⟨⟨s⟩⟩ ⟨⟨p⟩⟩ w).mono ?_⟩
   rintro e w' ⟨rfl,rfl⟩
   exact ⟨rfl,Ext.refl _⟩
theorem indexByte_iso {s:List UInt8} {c:Int}:IsoCall Tryz.prog 66 [.str s,.int .u8 c] (.int .i64 (Lib.indexByte s c.toNat.toUInt8)) false:=by
 refine iso_plain fun K w vs ht hk hr=>?_
 cases hr with
 | cons _ _ v vs hx hr=>
  cases hr with
  | cons _ _ v2 vs hx2 hr=>
   cases hr
   obtain rfl:=Rep.str_inv hx
   obtain rfl:=Rep.int_inv hx2
   refine ⟨_,.int _ _,(Tryz.strings_IndexByte ⟨⟨s⟩⟩ c w).mono ?_⟩
   rintro e w' ⟨rfl,rfl⟩
   exact ⟨rfl,Ext.refl _⟩
theorem strs_rep {C:Ctx}:∀ (l:List ByteArray),RepL C (l.map fun s=>.str s.data.toList) (l.map Value.string)
 | []=>.nil
 | s::l=>.cons _ _ _ _ (show Rep C (.str s.data.toList) (.string s) from .str _) (strs_rep l)
theorem split_iso {s p:List UInt8} (hs:s.length < 4294967281) (hp:1≤p.length):IsoCall Tryz.prog 68 [.str s,.str p] (.list false 1 ((Lib.splitB ⟨⟨p⟩⟩ 0 (Lib.countB ⟨⟨s⟩⟩ ⟨⟨p⟩⟩) ⟨⟨s⟩⟩).map fun x=>.str x.data.toList)) false:=by
 refine iso_list (us:=(Lib.splitB ⟨⟨p⟩⟩ 0 (Lib.countB ⟨⟨s⟩⟩ ⟨⟨p⟩⟩) ⟨⟨s⟩⟩).map Value.string) (t:=9) (fun x hx=>?_) (fun K=>strs_rep _) (fun u hu=>?_) fun K w vs ht hk hr=>?_
 ·obtain ⟨y,_,rfl⟩:=List.mem_map.1 hx; rfl
 ·obtain ⟨y,_,rfl⟩:=List.mem_map.1 hu; rfl
 ·cases hr with
  | cons _ _ v vs hx hr=>
   cases hr with
   | cons _ _ v2 vs hx2 hr=>
    cases hr
    obtain rfl:=Rep.str_inv hx
    obtain rfl:=Rep.str_inv hx2
    have hg0:Tryz.prog.globalNamed lenName=some 0:=by kernel_rfl
    obtain ⟨m,hm⟩:=ht.length hg0
    refine (Tryz.strings_Split ⟨⟨s⟩⟩ ⟨⟨p⟩⟩ m w hs hm hp).mono ?_
    rintro e w' ⟨rfl,rfl⟩
    refine ⟨?_,rfl⟩
    rw [List.length_map,Lib.splitB_all ⟨⟨p⟩⟩ hp 0 _ ⟨⟨s⟩⟩ rfl]
theorem strs_row {C:Ctx} {r:Nat}:∀ {ss:List (List UInt8)} {o:Nat},RepRow C r 1 (ss.map AVal.str) o→∀ (j:Nat) s,ss[j]?=some s→C.K r (o + j)=some (.string ⟨⟨s⟩⟩)
 | [],o,_,j,s,hj=>by simp at hj
 | x::ss,o,h,j,s,hj=>by
  cases h with
  | rcons _ _ _ _ _ hs hx hr=>
   cases j with
   | zero=>
    simp only [List.getElem?_cons_zero,Option.some.injEq] at hj
    subst hj
    cases hx with
    | ccons _ _ _ _ u hv hu _=>
     rw [Nat.add_zero,hv,Rep.str_inv hu]
   | succ j=>
    have:=strs_row hr j s (by simpa using hj)
    rw [show o + (j + 1)=o + 1 + j by omega]
    exact this
theorem join_iso {ss:List (List UInt8)} {p:List UInt8} (hne:ss ≠ []) (hN:ss.length≤140737488355328) (hlen:(Lib.join ss p).length≤140737488355328):IsoCall Tryz.prog 34 [.list false 1 (ss.map .str),.str p] (.str (Lib.join ss p)) false:=by
 refine iso_plain fun K w vs ht hk hr=>?_
 cases hr with
 | cons _ _ v vs hx hr=>
  cases hr with
  | cons _ _ v2 vs hx2 hr=>
   cases hr
   obtain rfl:=Rep.str_inv hx2
   have hl:∃ r o cap,v=.slice (some ⟨r,o,none⟩) (ss.map AVal.str).length cap∧(ss.map AVal.str).length≤cap∧RepRow (.iso K) r 1 (ss.map .str) o:=by
    generalize hq:ss.map AVal.str=q at hx
    cases hx with
    | list _ _ r o cap hl hrow=>exact ⟨r,o,cap,rfl,hl,hrow⟩
    | lemp _ a hs=>exact absurd (List.map_eq_nil_iff.1 hq) hne
   obtain ⟨r,o,cap,rfl,hcap,hrow⟩:=hl
   have hmap:(ss.map fun s=>(⟨⟨s⟩⟩:ByteArray)).map (·.data.toList)=ss:=by
    rw [List.map_map]
    exact List.map_id' _
   have hcells:∀ (j:Nat) x,(ss.map fun s=>(⟨⟨s⟩⟩:ByteArray))[j]?=some x→w.cell? ⟨r,o + j,none⟩=some (.string x):=by
    intro j x hj
    rw [List.getElem?_map,Option.map_eq_some_iff] at hj
    obtain ⟨s,hs,rfl⟩:=hj
    exact hk _ _ _ (strs_row hrow j s hs)
   have hbk:r < w.heap.size:=by
    cases hss:ss with
    | nil=>exact absurd hss hne
    | cons s l=>
     have:=hcells 0 ⟨⟨s⟩⟩ (by rw [hss]; rfl)
     rcases Nat.lt_or_ge r w.heap.size with h | h
     ·exact h
     ·simp [World.cell?,Array.getElem?_eq_none h] at this
   have hj:=Tryz.strings_Join r o cap (ss.map fun s=>(⟨⟨s⟩⟩:ByteArray)) ⟨⟨p⟩⟩ w hcells hbk (by simpa using hN) (by simpa using hcap) (by rw [hmap]; exact hlen)
   rw [hmap,List.length_map] at hj
   rw [List.length_map]
   refine ⟨.string ⟨⟨Lib.join ss p⟩⟩,.str _,hj.mono ?_⟩
   rintro e w' ⟨rfl,hb⟩
   exact ⟨rfl,ext_below hb⟩
end Go.Z
/-
 The program with the library's contracts: the functions of the texts in it.
-/
namespace Go.Z
open Go Go.Abs Go.Proofs
def strsOf:List AVal→Option (List (List UInt8))
 | []=>some []
 | .str s::xs=>(strsOf xs).map (s::·)
 | _=>none
theorem strsOf_map:∀ ss:List (List UInt8),strsOf (ss.map vstr)=some ss
 | []=>rfl
 | s::ss=>by show (strsOf (ss.map vstr)).map (s::·)=_; rw [strsOf_map ss]; rfl
theorem strsOf_eq:∀ {xs:List AVal} {ss:List (List UInt8)},strsOf xs=some ss→xs=ss.map .str
 | [],ss,h=>by cases h; rfl
 | x::xs,ss,h=>by
  cases x with
  | str s=>
   obtain ⟨l,h1,rfl⟩:=Option.map_eq_some_iff.1 (show (strsOf xs).map (s::·)=some ss from h)
   rw [strsOf_eq h1]; rfl
  | _=>cases h
noncomputable def E36 (n:Int):Option (List UInt8):=exO (-9223372036854775808≤n∧n≤9223372036854775807) (Lib.itoa n)
noncomputable def E39 (s p:List UInt8):Option (List UInt8 × Bool):=exO (s.length≤9223372036854775807) (Lib.trimSuffix s p,Lib.hasSuffix s p)
noncomputable def E115 (s p:List UInt8):Option (List UInt8 × Bool):=some (Lib.trimPrefix s p,Lib.hasPrefix s p)
noncomputable def E66 (s:List UInt8) (c:Int):Option Int:=some (Lib.indexByte s c.toNat.toUInt8)
noncomputable def E68 (s p:List UInt8):Option (Option (List (List UInt8))):=exO (s.length < 4294967281∧1≤p.length) (some ((Lib.splitB ⟨⟨p⟩⟩ 0 (Lib.countB ⟨⟨s⟩⟩ ⟨⟨p⟩⟩) ⟨⟨s⟩⟩).map fun x=>x.data.toList))
noncomputable def E34 (ss:List (List UInt8)) (p:List UInt8):Option (List UInt8):=exO (ss ≠ []∧ss.length≤140737488355328∧(Lib.join ss p).length≤140737488355328) (Lib.join ss p)
noncomputable def t40:List AVal→Option (AVal × Bool)
 | [.int .i64 n]=>(E36 n).map fun r=>(.str r,false)
 | _=>none
noncomputable def t44:List AVal→Option (AVal × Bool)
 | [.str s,.str p]=>(E39 s p).map fun r=>(.tup [.str r.1,.bool r.2],false)
 | _=>none
noncomputable def t146:List AVal→Option (AVal × Bool)
 | [.str s,.str p]=>(E115 s p).map fun r=>(.tup [.str r.1,.bool r.2],false)
 | _=>none
noncomputable def t89:List AVal→Option (AVal × Bool)
 | [.str s,.int .u8 c]=>(E66 s c).map fun r=>(.int .i64 r,false)
 | _=>none
noncomputable def t91:List AVal→Option (AVal × Bool)
 | [.str s,.str p]=>(E68 s p).map fun r=>(sl 1 vstr r,false)
 | _=>none
noncomputable def t38:List AVal→Option (AVal × Bool)
 | [.list false 1 xs,.str p]=>(strsOf xs).bind fun ss=>(E34 ss p).map fun r=>(.str r,false)
 | _=>none
noncomputable def moreD:Prims:=fun k=>
 bif Nat.beq k 36 then some t40 else bif Nat.beq k 39 then some t44 else bif Nat.beq k 115 then some t146 else
 bif Nat.beq k 66 then some t89 else bif Nat.beq k 68 then some t91 else bif Nat.beq k 34 then some t38 else none
def opD:Nat→Bool:=fun k=>Nat.beq k 11 || (Nat.beq k 40 || Nat.beq k 94)
noncomputable def prD:AProg:=withP pr moreD opD
theorem t40_ok {args v o} (h:t40 args=some (v,o)):IsoCall Tryz.prog 36 args v o:=by
 unfold t40 at h; split at h
 ·obtain ⟨r,h1,h2⟩:=Option.map_eq_some_iff.1 h
  cases h2; obtain ⟨⟨ha,hb⟩,rfl⟩:=exO_some h1; exact itoa_iso ha hb
 ·cases h
theorem t44_ok {args v o} (h:t44 args=some (v,o)):IsoCall Tryz.prog 39 args v o:=by
 unfold t44 at h; split at h
 ·obtain ⟨r,h1,h2⟩:=Option.map_eq_some_iff.1 h
  cases h2; obtain ⟨ha,rfl⟩:=exO_some h1; exact cutSuffix_iso ha
 ·cases h
theorem t146_ok {args v o} (h:t146 args=some (v,o)):IsoCall Tryz.prog 115 args v o:=by
 unfold t146 at h; split at h
 ·obtain ⟨r,h1,h2⟩:=Option.map_eq_some_iff.1 h
  cases h2; cases h1; exact cutPrefix_iso
 ·cases h
theorem t89_ok {args v o} (h:t89 args=some (v,o)):IsoCall Tryz.prog 66 args v o:=by
 unfold t89 at h; split at h
 ·obtain ⟨r,h1,h2⟩:=Option.map_eq_some_iff.1 h
  cases h2; cases h1; exact indexByte_iso
 ·cases h
theorem t91_ok {args v o} (h:t91 args=some (v,o)):IsoCall Tryz.prog 68 args v o:=by
 unfold t91 at h; split at h
 ·obtain ⟨r,h1,h2⟩:=Option.map_eq_some_iff.1 h
  cases h2; obtain ⟨⟨ha,hb⟩,rfl⟩:=exO_some h1
  have:=split_iso ha hb
  show IsoCall Tryz.prog 68 _ (.list false 1 (((Lib.splitB _ 0 _ _).map fun x=>x.data.toList).map vstr)) false
  rw [List.map_map]
  exact this
 ·cases h
theorem t38_ok {args v o} (h:t38 args=some (v,o)):IsoCall Tryz.prog 34 args v o:=by
 unfold t38 at h; split at h
 ·obtain ⟨ss,h0,h⟩:=Option.bind_eq_some_iff.1 h
  obtain ⟨r,h1,h2⟩:=Option.map_eq_some_iff.1 h
  cases h2; obtain ⟨⟨ha,hb,hc⟩,rfl⟩:=exO_some h1
  rw [strsOf_eq h0]; exact join_iso ha hb hc
 ·cases h
theorem okD:ProgOk Tryz.prog prD:=withP_ok okPr (by
 intro k f hf
 simp only [moreD,Bool.cond_eq_ite] at hf
 split at hf
 ·next hb=>cases hf; obtain rfl:=Nat.eq_of_beq_eq_true hb; exact ⟨enters_tree (k:=36) (by kernel_rfl),fun args v o h _ _=>t40_ok h⟩
 split at hf
 ·next hb=>cases hf; obtain rfl:=Nat.eq_of_beq_eq_true hb; exact ⟨enters_tree (k:=39) (by kernel_rfl),fun args v o h _ _=>t44_ok h⟩
 split at hf
 ·next hb=>cases hf; obtain rfl:=Nat.eq_of_beq_eq_true hb; exact ⟨enters_tree (k:=115) (by kernel_rfl),fun args v o h _ _=>t146_ok h⟩
 split at hf
 ·next hb=>cases hf; obtain rfl:=Nat.eq_of_beq_eq_true hb; exact ⟨enters_tree (k:=66) (by kernel_rfl),fun args v o h _ _=>t89_ok h⟩
 split at hf
 ·next hb=>cases hf; obtain rfl:=Nat.eq_of_beq_eq_true hb; exact ⟨enters_tree (k:=68) (by kernel_rfl),fun args v o h _ _=>t91_ok h⟩
 split at hf
 ·next hb=>cases hf; obtain rfl:=Nat.eq_of_beq_eq_true hb; exact ⟨enters_tree (k:=34) (by kernel_rfl),fun args v o h _ _=>t38_ok h⟩
 ·cases hf)
theorem atD {k:Nat} (ho:opD k=false) (hm:moreD k=none) {args:List AVal} {v:AVal} {o:Bool} (h:callIso pr (X pr) k args=some (v,o)) (hv:below 0 v=true):callIso prD (X prD) k args=some (v,o):=withP_call ho hm h hv
end Go.Z
