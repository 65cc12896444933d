/-
 The document's Kind: of the leaves. Conditions: at most 100 tables, 10000 columns in all.
-/
import Derived.Test.YtkfjmgmjbljnbaaGreatDoorBColumn
import Derived.Test.YtkfjmgmjbljnbaaGreatDoorBAll17
import Derived.Test.YtkfjmgmjbljnbaaGreatDoorBGJ
set_option maxRecDepth 100000
set_option maxHeartbeats 8000000
namespace Go.Proofs.YtkfjmgmjbljnbaaGreatDoor
open Go.RowKit
def KindP (p : Int × Int) (w : World) (e : Ending) (w' : World) : Prop := e = .returned (.tuple #[.int .u8 p.1, .int .i64 p.2]) ∧ Below w.heap.size w w'
theorem col_F (s : ByteArray) (k : Int) (w : World) : (Instr.field 55 (.agg #[.string s, .int .u8 k]) 1).run Tryz.prog w = .ok (.int .u8 k) w := by kernel_rfl
attribute [local go_sem] col_F
theorem kind_lit17 (A : Option Addr) (c n : Nat) (k i : Int) (s : List UInt8) (b gr : Bool) (w : World) :
 Calls Tryz.prog 32 #[.slice A n c, (rcL k i s b).val, .bool gr] w (KindP (k, 0) w) := by
 have hb0 : Below w.heap.size w (w.alloc (.cells #[.int .u8 1, .int .u8 k, .int .i64 i, .string ⟨s.toArray⟩, .bool b, .string ⟨#[]⟩, .string ⟨#[]⟩, .slice none 0 0] 35)) := (Below.refl _ _).alloc (Nat.le_refl _) _
 have hz := heap_alloc_new w (.cells #[.int .u8 1, .int .u8 k, .int .i64 i, .string ⟨s.toArray⟩, .bool b, .string ⟨#[]⟩, .string ⟨#[]⟩, .slice none 0 0] 35)
 have hc := box_cells hz
 have HB := Lib.hid hb0
 simp only [RC.val, rcL]
 clear hb0 hz
 go_enter Tryz.func32, Tryz.ntmps32
 go_wp2_with fail
 generalize (w.alloc (.cells #[.int .u8 1, .int .u8 k, .int .i64 i, .string ⟨s.toArray⟩, .bool b, .string ⟨#[]⟩, .string ⟨#[]⟩, .slice none 0 0] 35)) = W at *
 go_loopw [22] (fun s22 wr => s22 = .int .i64 0 ∧ W = wr) (fun _ _ => 0)
 case atStart => exact ⟨rfl, rfl⟩
 case round =>
  obtain ⟨rfl, rfl⟩ := hrel
  go_wp2
  go_ret2
  exact ⟨rfl, HB.out⟩
theorem kind_cnt17 (A : Option Addr) (c n : Nat) (gr : Bool) (w : World) :
 Calls Tryz.prog 32 #[.slice A n c, (rc0 6 Lp.uCount).val, .bool gr] w (KindP (if gr then (1, 0) else (0, 3)) w) := by
 have hb0 : Below w.heap.size w (w.alloc (.cells #[.int .u8 6, .int .u8 0, .int .i64 0, .string ⟨#[]⟩, .bool false, .string ⟨#[]⟩, .string ⟨#[67, 79, 85, 78, 84]⟩, .slice none 0 0] 35)) := (Below.refl _ _).alloc (Nat.le_refl _) _
 have hz := heap_alloc_new w (.cells #[.int .u8 6, .int .u8 0, .int .i64 0, .string ⟨#[]⟩, .bool false, .string ⟨#[]⟩, .string ⟨#[67, 79, 85, 78, 84]⟩, .slice none 0 0] 35)
 have hc := box_cells hz
 have HB := Lib.hid hb0
 simp only [RC.val, rc0, Lp.uCount]
 clear hb0 hz
 cases gr
 ·go_enter Tryz.func32, Tryz.ntmps32
  go_wp2
  go_ret2
  exact ⟨rfl, HB.out⟩
 ·go_enter Tryz.func32, Tryz.ntmps32
  go_wp2_with fail
  generalize (w.alloc (.cells #[.int .u8 6, .int .u8 0, .int .i64 0, .string ⟨#[]⟩, .bool false, .string ⟨#[]⟩, .string ⟨#[67, 79, 85, 78, 84]⟩, .slice none 0 0] 35)) = W at *
  go_loopw [22] (fun s22 wr => s22 = .int .i64 0 ∧ W = wr) (fun _ _ => 0)
  case atStart => exact ⟨rfl, rfl⟩
  case round =>
   obtain ⟨rfl, rfl⟩ := hrel
   go_wp2
   go_ret2
   exact ⟨rfl, HB.out⟩
theorem kind_col17 (A : Option Addr) (c : Nat) (l : List TabA) (t s : List UInt8) (gr : Bool) (w : World) (hA : ScA w A l) (hn : l.length ≤ 100) (hw : Lp.wide (scOf l) ≤ 10000) :
 Calls Tryz.prog 32 #[.slice A l.length c, (rcC t s).val, .bool gr] w (KindP (Lp.kindX (scOf l) (.col t s) gr) w) := by
 have hb0 : Below w.heap.size w (w.alloc (.cells #[.int .u8 2, .int .u8 0, .int .i64 0, .string ⟨#[]⟩, .bool false, .string ⟨t.toArray⟩, .string ⟨s.toArray⟩, .slice none 0 0] 35)) := (Below.refl _ _).alloc (Nat.le_refl _) _
 have hz := heap_alloc_new w (.cells #[.int .u8 2, .int .u8 0, .int .i64 0, .string ⟨#[]⟩, .bool false, .string ⟨t.toArray⟩, .string ⟨s.toArray⟩, .slice none 0 0] 35)
 have hc := box_cells hz
 have HB := Lib.hid hb0
 have hf := rfind_any A c l t s _ (hA.below hb0) hn hw
 have hco := fun (n : Nat) (k : Int) (w' : World) (hb : Below w.heap.size w w') (hk : (Lp.flatK (scOf l))[n]? = some k) => column17_any A c l n k w' (hA.below hb) hn hw hk
 have HF := Lib.hid hf
 have HCO := Lib.hid hco
 simp only [RC.val, rcC]
 clear hb0 hz hf hco hA
 have hq : (Lp.findX (scOf l) t s = none ∧ Lp.atX (scOf l) t s = -1 ∧ Lp.kindX (scOf l) (.col t s) gr = (0, 6)) ∨ ∃ p, Lp.findX (scOf l) t s = some p ∧ Lp.atX (scOf l) t s = (p.1 : Int) ∧ Lp.kindX (scOf l) (.col t s) gr = (p.2, 0) := by
  cases h : Lp.findX (scOf l) t s with
  | none => exact .inl ⟨rfl, by simp [Lp.atX, h], by simp [Lp.kindX, h]⟩
  | some p => exact .inr ⟨p, rfl, by simp [Lp.atX, h], by simp [Lp.kindX, h]⟩
 rcases hq with ⟨h1, h2, h3⟩ | ⟨p, h1, h2, h3⟩
 all_goals
  rw [h3]
  rw [h2] at HF
  clear h2 h3
  have H1 := Lib.hid h1
  clear h1
  go_enter Tryz.func32, Tryz.ntmps32
  go_wp2_with fail
  generalize (w.alloc (.cells #[.int .u8 2, .int .u8 0, .int .i64 0, .string ⟨#[]⟩, .bool false, .string ⟨t.toArray⟩, .string ⟨s.toArray⟩, .slice none 0 0] 35)) = W at *
  go_loopw [22] (fun s22 wr => s22 = .int .i64 0 ∧ W = wr) (fun _ _ => 0)
  case atStart => exact ⟨rfl, rfl⟩
  case round =>
   obtain ⟨rfl, rfl⟩ := hrel
   go_wp2_with fail
   refine HF.out.mono ?_
   rintro e w1 ⟨rfl, hb1⟩
   have HB1 := Lib.hid (HB.out.trans (hb1.mono HB.out.size))
   clear hb1 HF
   first
    | (go_wp2; go_ret2; exact ⟨rfl, HB1.out⟩)
    | (go_wp2_with fail
       refine (HCO.out p.1 p.2 _ HB1.out (Lp.findX_at H1.out)).mono ?_
       rintro e w2 ⟨⟨nc, rfl⟩, hb2⟩
       have HB2 := Lib.hid (HB1.out.trans (hb2.mono HB1.out.size))
       clear hb2
       go_wp2
       go_ret2
       exact ⟨rfl, HB2.out⟩)
end Go.Proofs.YtkfjmgmjbljnbaaGreatDoor
