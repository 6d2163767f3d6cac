/-
  mantletlaw09.PackUnlike: different packets have different bytes, whatever their content.
  No condition: any two packets, any bytes.
-/
import Derived.Test.YtofjgdbiieanjaaAllx78
import Derived.Lib.Bytes
import Derived.Test.YtofjgdbiieanjaaNetPackA
import Derived.Test.YtofjgdbiieanjaaNetPackW
namespace Go.Proofs.Ytofjgdbiieanjaa.Pure
open Go.RowKit Go.Proofs.Ytofjgdbiieanjaa.All Go.Proofs.Ytofjgdbiieanjaa.Ext Go.Proofs.Ytofjgdbiieanjaa.Bits Go.Proofs.YtofjgdbiieanjaaW.PrintWords Go.Proofs.YtofjgdbiieanjaaW.PrintLast Go.Proofs.Ytofjgdbiieanjaa.NetRef Go.Proofs.Ytofjgdbiieanjaa.NetWire Go.Proofs.Ytofjgdbiieanjaa.NetPack
theorem pack_of {a s d x y f k : Int} {b : List Int} (h : Fields a s d x y f k) (n : Nat) (hb : Byte b) (hl : b.length ≤ 1600) (hn : 2000 ≤ n) : pack_Build.f n a s d x y f k b = some (packV a s d x y f k b) := by
  have h1 := pack_eq h (n - 80 - b.length) hb (by omega)
  rwa [show n - 80 - b.length + 80 + b.length = n by omega] at h1
/-- Bytes are told by their text. -/
theorem bytes_inj : ∀ (x y : List Int), Byte x → Byte y → Lib.bytesOf x = Lib.bytesOf y → x = y
  | [], [], _, _, _ => rfl
  | [], b :: y, _, _, h => by simp [Lib.bytesOf] at h
  | a :: x, [], _, _, h => by simp [Lib.bytesOf] at h
  | a :: x, b :: y, hx, hy, h => by
    simp only [Lib.bytesOf, List.map_cons, List.cons.injEq] at h
    obtain ⟨h1, h2⟩ := h
    obtain ⟨a0, a1⟩ := hx a (List.mem_cons_self ..)
    obtain ⟨b0, b1⟩ := hy b (List.mem_cons_self ..)
    have e : a.toNat = b.toNat := by
      have h3 := congrArg UInt8.toNat h1
      simp only [UInt8.toNat_ofNat'] at h3
      omega
    rw [bytes_inj x y (fun z hz => hx z (List.mem_cons_of_mem _ hz)) (fun z hz => hy z (List.mem_cons_of_mem _ hz)) h2, show a = b by omega]
theorem PackUnlike : mantletlaw09_PackUnlike.Pure := by
  intro a s d x y f k a' s' d' x' y' f' k' l c ha hs hd hx hy hf hk ha' hs' hd' hx' hy' hf' hk' _ _ hb0 _ _ hc0
  have hF : Fields a s d x y f k := ⟨(wf_u8 ha).1, (wf_u8 ha).2, (wf_u32 hs).1, (wf_u32 hs).2, (wf_u32 hd).1, (wf_u32 hd).2, (wf_u16 hx).1, (wf_u16 hx).2, (wf_u16 hy).1, (wf_u16 hy).2, (wf_u8 hf).1, (wf_u8 hf).2, (wf_u8 hk).1, (wf_u8 hk).2⟩
  have hG : Fields a' s' d' x' y' f' k' := ⟨(wf_u8 ha').1, (wf_u8 ha').2, (wf_u32 hs').1, (wf_u32 hs').2, (wf_u32 hd').1, (wf_u32 hd').2, (wf_u16 hx').1, (wf_u16 hx').2, (wf_u16 hy').1, (wf_u16 hy').2, (wf_u8 hf').1, (wf_u8 hf').2, (wf_u8 hk').1, (wf_u8 hk').2⟩
  have hb := short_byte (byte_of hb0)
  have hl := short_length l
  have hc := short_byte (byte_of hc0)
  have hm := short_length c
  have hw := awake_from 2920
  refine ⟨3000, ?_⟩
  unfold mantletlaw09_PackUnlike.f
  rw [short_eq, Option.bind_some, pack_of hF _ hb hl (by omega), Option.bind_some, short_eq, Option.bind_some, pack_of hG _ hc hm (by omega), Option.bind_some, hw, Option.bind_some, if_pos rfl]
  by_cases h1 : (packV a s d x y f k (shortL l)).2 = 0
  rotate_left
  · rw [if_neg h1]
  rw [if_pos h1]
  by_cases h2 : (packV a' s' d' x' y' f' k' (shortL c)).2 = 0
  rotate_left
  · rw [if_neg h2]
  rw [if_pos h2]
  by_cases h3 : (a == a' && (s == s' && (d == d' && (x == x' && (y == y' && (f == f' && (k == k'))))))) = true
  · rw [if_pos h3]
  · rw [if_neg h3]
    obtain ⟨pb, _, pw⟩ := packed hF hb h1
    obtain ⟨qb, _, qw⟩ := packed hG hc h2
    congr 1
    rw [bne_iff_ne]
    intro he
    apply h3
    rw [Lib.strOfNums_toList, Lib.strOfNums_toList] at he
    have e := bytes_inj _ _ pb qb he
    rw [e, qw] at pw
    simp only [Prod.mk.injEq] at pw
    obtain ⟨rfl, rfl, rfl, rfl, rfl, rfl, rfl, _⟩ := pw
    simp
end Go.Proofs.Ytofjgdbiieanjaa.Pure
