/-
  The library's functions in the abstract machine: their contracts.
-/
import Derived.Test.YtoljkienfmckjaaGreatDoorZS
import Derived.Test.YtoljkienfmckjaaGreatDoorZP
import Derived.Test.YtoljkienfmckjaaGreatDoorAbsH
import Derived.Lib.AppendIntMem
import Derived.Lib.SplitLaws
set_option linter.unusedVariables false
set_option linter.unusedSimpArgs false
set_option maxRecDepth 100000
namespace Go.Z
open Go Go.Abs Go.Proofs Go.RowKit
theorem ext_below {w w':World} (h:Below w.heap.size w w'):Ext w w':=⟨h.size,h.block,h.os,h.output⟩
theorem itoa_iso {n:Int} (h0:-9223372036854775808≤n) (h1:n≤9223372036854775807):IsoCall Tryz.prog 40 [.int .i64 n] (.str (Lib.itoa n)) false:=by
 refine iso_plain fun K w vs ht hk hr=>?_
 cases hr with
 | cons _ _ v vs hx hr=>
  cases hr
  obtain rfl:=Rep.int_inv hx
  have hg:Tryz.prog.globalNamed tabName=some 1:=by kernel_rfl
  refine ⟨.string ⟨⟨Lib.itoa n⟩⟩,.str _,(Tryz.strconv_Itoa n h0 h1 w (ht.table hg)).mono ?_⟩
  rintro e w' ⟨rfl,k,os,rfl⟩
  exact ⟨rfl,ext_below (Lib.below_grow w.heap.size w (Nat.le_refl _) k os)⟩
theorem cutSuffix_iso {s p:List UInt8} (hs:s.length≤9223372036854775807):IsoCall Tryz.prog 44 [.str s,.str p] (.tup [.str (Lib.trimSuffix s p),.bool (Lib.hasSuffix s p)]) false:=by
 refine iso_plain fun K w vs ht hk hr=>?_
 cases hr with
 | cons _ _ v vs hx hr=>
  cases hr with
  | cons _ _ v2 vs hx2 hr=>
   cases hr
   obtain rfl:=Rep.str_inv hx
   obtain rfl:=Rep.str_inv hx2
   refine ⟨_,.tup _ [_,_] (.cons _ _ _ _ (.str _) (.cons _ _ _ _ (.bool _) .nil)),(Tryz.strings_CutSuffix ⟨⟨s⟩⟩ ⟨⟨p⟩⟩ w hs).mono ?_⟩
   rintro e w' ⟨rfl,rfl⟩
   exact ⟨rfl,Ext.refl _⟩
theorem cutPrefix_iso {s p:List UInt8}:IsoCall Tryz.prog 146 [.str s,.str p] (.tup [.str (Lib.trimPrefix s p),.bool (Lib.hasPrefix s p)]) false:=by
 refine iso_plain fun K w vs ht hk hr=>?_
 cases hr with
 | cons _ _ v vs hx hr=>
  cases hr with
  | cons _ _ v2 vs hx2 hr=>
   cases hr
   obtain rfl:=Rep.str_inv hx
   obtain rfl:=Rep.str_inv hx2
   refine ⟨_,.tup _ [_,_] (.cons _ _ _ _ (.str _) (.cons _ _ _ _ (.bool _) .nil)),(Tryz.strings_CutPrefix ⟨⟨s⟩⟩ ⟨⟨p⟩⟩ w).mono ?_⟩
   rintro e w' ⟨rfl,rfl⟩
   exact ⟨rfl,Ext.refl _⟩
theorem indexByte_iso {s:List UInt8} {c:Int}:IsoCall Tryz.prog 89 [.str s,.int .u8 c] (.int .i64 (Lib.indexByte s c.toNat.toUInt8)) false:=by
 refine iso_plain fun K w vs ht hk hr=>?_
 cases hr with
 | cons _ _ v vs hx hr=>
  cases hr with
  | cons _ _ v2 vs hx2 hr=>
   cases hr
   obtain rfl:=Rep.str_inv hx
   obtain rfl:=Rep.int_inv hx2
   refine ⟨_,.int _ _,(Tryz.strings_IndexByte ⟨⟨s⟩⟩ c w).mono ?_⟩
   rintro e w' ⟨rfl,rfl⟩
   exact ⟨rfl,Ext.refl _⟩
theorem strs_rep {C:Ctx}:∀ (l:List ByteArray),RepL C (l.map fun s=>.str s.data.toList) (l.map Value.string)
 | []=>.nil
 | s::l=>.cons _ _ _ _ (show Rep C (.str s.data.toList) (.string s) from .str _) (strs_rep l)
theorem split_iso {s p:List UInt8} (hs:s.length < 4294967281) (hp:1≤p.length):IsoCall Tryz.prog 91 [.str s,.str p] (.list false 1 ((Lib.splitB ⟨⟨p⟩⟩ 0 (Lib.countB ⟨⟨s⟩⟩ ⟨⟨p⟩⟩) ⟨⟨s⟩⟩).map fun x=>.str x.data.toList)) false:=by
 refine iso_list (us:=(Lib.splitB ⟨⟨p⟩⟩ 0 (Lib.countB ⟨⟨s⟩⟩ ⟨⟨p⟩⟩) ⟨⟨s⟩⟩).map Value.string) (t:=9) (fun x hx=>?_) (fun K=>strs_rep _) (fun u hu=>?_) fun K w vs ht hk hr=>?_
 ·obtain ⟨y,_,rfl⟩:=List.mem_map.1 hx; rfl
 ·obtain ⟨y,_,rfl⟩:=List.mem_map.1 hu; rfl
 ·cases hr with
  | cons _ _ v vs hx hr=>
   cases hr with
   | cons _ _ v2 vs hx2 hr=>
    cases hr
    obtain rfl:=Rep.str_inv hx
    obtain rfl:=Rep.str_inv hx2
    have hg0:Tryz.prog.globalNamed lenName=some 0:=by kernel_rfl
    obtain ⟨m,hm⟩:=ht.length hg0
    refine (Tryz.strings_Split ⟨⟨s⟩⟩ ⟨⟨p⟩⟩ m w hs hm hp).mono ?_
    rintro e w' ⟨rfl,rfl⟩
    refine ⟨?_,rfl⟩
    rw [List.length_map,Lib.splitB_all ⟨⟨p⟩⟩ hp 0 _ ⟨⟨s⟩⟩ rfl]
theorem strs_row {C:Ctx} {r:Nat}:∀ {ss:List (List UInt8)} {o:Nat},RepRow C r 1 (ss.map AVal.str) o→∀ (j:Nat) s,ss[j]?=some s→C.K r (o + j)=some (.string ⟨⟨s⟩⟩)
 | [],o,_,j,s,hj=>by simp at hj
 | x::ss,o,h,j,s,hj=>by
  cases h with
  | rcons _ _ _ _ _ hs hx hr=>
   cases j with
   | zero=>
    simp only [List.getElem?_cons_zero,Option.some.injEq] at hj
    subst hj
    cases hx with
    | ccons _ _ _ _ u hv hu _=>
     rw [Nat.add_zero,hv,Rep.str_inv hu]
   | succ j=>
    have:=strs_row hr j s (by simpa using hj)
    rw [show o + (j + 1)=o + 1 + j by omega]
    exact this
theorem join_iso {ss:List (List UInt8)} {p:List UInt8} (hne:ss ≠ []) (hN:ss.length≤140737488355328) (hlen:(Lib.join ss p).length≤140737488355328):IsoCall Tryz.prog 38 [.list false 1 (ss.map .str),.str p] (.str (Lib.join ss p)) false:=by
 refine iso_plain fun K w vs ht hk hr=>?_
 cases hr with
 | cons _ _ v vs hx hr=>
  cases hr with
  | cons _ _ v2 vs hx2 hr=>
   cases hr
   obtain rfl:=Rep.str_inv hx2
   have hl:∃ r o cap,v=.slice (some ⟨r,o,none⟩) (ss.map AVal.str).length cap∧(ss.map AVal.str).length≤cap∧RepRow (.iso K) r 1 (ss.map .str) o:=by
    generalize hq:ss.map AVal.str=q at hx
    cases hx with
    | list _ _ r o cap hl hrow=>exact ⟨r,o,cap,rfl,hl,hrow⟩
    | lemp _ a hs=>exact absurd (List.map_eq_nil_iff.1 hq) hne
   obtain ⟨r,o,cap,rfl,hcap,hrow⟩:=hl
   have hmap:(ss.map fun s=>(⟨⟨s⟩⟩:ByteArray)).map (·.data.toList)=ss:=by
    rw [List.map_map]
    exact List.map_id' _
   have hcells:∀ (j:Nat) x,(ss.map fun s=>(⟨⟨s⟩⟩:ByteArray))[j]?=some x→w.cell? ⟨r,o + j,none⟩=some (.string x):=by
    intro j x hj
    rw [List.getElem?_map,Option.map_eq_some_iff] at hj
    obtain ⟨s,hs,rfl⟩:=hj
    exact hk _ _ _ (strs_row hrow j s hs)
   have hbk:r < w.heap.size:=by
    cases hss:ss with
    | nil=>exact absurd hss hne
    | cons s l=>
     have:=hcells 0 ⟨⟨s⟩⟩ (by rw [hss]; rfl)
     rcases Nat.lt_or_ge r w.heap.size with h | h
     ·exact h
     ·simp [World.cell?,Array.getElem?_eq_none h] at this
   have hj:=Tryz.strings_Join r o cap (ss.map fun s=>(⟨⟨s⟩⟩:ByteArray)) ⟨⟨p⟩⟩ w hcells hbk (by simpa using hN) (by simpa using hcap) (by rw [hmap]; exact hlen)
   rw [hmap,List.length_map] at hj
   rw [List.length_map]
   refine ⟨.string ⟨⟨Lib.join ss p⟩⟩,.str _,hj.mono ?_⟩
   rintro e w' ⟨rfl,hb⟩
   exact ⟨rfl,ext_below hb⟩
end Go.Z
