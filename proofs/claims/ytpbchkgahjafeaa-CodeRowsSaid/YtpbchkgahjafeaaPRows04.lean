/-
  Numbers and truths written one behind the other, and how they are read.
-/
import Derived.Test.YtpbchkgahjafeaaPCode3
import Derived.Test.YtpbchkgahjafeaaOReader
namespace Go.Proofs.Ytpbchkgahjafeaa.Pure.Code
open Go.RowKit Go.Proofs.Ytpbchkgahjafeaa.M Go.Proofs.YtpbchkgahjafeaaW.PrintWords Go.Proofs.YtpbchkgahjafeaaW.PrintLast Go.Proofs.YtpbchkgahjafeaaW.PrintMore Go.Proofs.Ytpbchkgahjafeaa.Pure.Bits
def yb (y : Bool) : Int := if y then 1 else 0
/-- what is written for the number at i -/
def piece (ns : List Int) (ys : List Bool) (i : Nat) : List Int := if i < ys.length then enc (rd ns (i : Int)) ++ [yb (rdOf false ys (i : Int))] else enc (rd ns (i : Int))
def pre (ns : List Int) (ys : List Bool) : Nat → List Int
  | 0 => []
  | i + 1 => pre ns ys i ++ piece ns ys i
theorem rd_mem {ns : List Int} {i : Nat} (h : i < ns.length) : rd ns (i : Int) ∈ ns := by
  have : rd ns (i : Int) = ns[i] := by simp [rd, h]
  rw [this]
  exact List.getElem_mem h
theorem piece_len {ns : List Int} {ys : List Bool} {i : Nat} (hi : I64 (rd ns (i : Int))) : (piece ns ys i).length ≤ 11 := by
  have := enc_len hi
  unfold piece
  split
  · simp; omega
  · omega
theorem pre_len {ns : List Int} {ys : List Bool} (hn : ∀ x ∈ ns, I64 x) : ∀ i, i ≤ ns.length → (pre ns ys i).length ≤ 11 * i
  | 0, _ => by simp [pre]
  | i + 1, h => by
    have := pre_len (ys := ys) hn i (by omega)
    have := piece_len (ys := ys) (hn _ (rd_mem (show i < ns.length by omega)))
    simp only [pre, List.length_append]
    omega
theorem pre_le {ns : List Int} {ys : List Bool} (i : Nat) : ∀ d, ∃ rest, pre ns ys (i + d) = pre ns ys i ++ rest
  | 0 => ⟨[], by simp⟩
  | d + 1 => by
    obtain ⟨r, h⟩ := pre_le (ns := ns) (ys := ys) i d
    exact ⟨r ++ piece ns ys (i + d), by rw [← Nat.add_assoc, pre, h, List.append_assoc]⟩
theorem pre_at {ns : List Int} {ys : List Bool} {i : Nat} (h : i < ns.length) (t : List Int) : ∃ rest, pre ns ys ns.length ++ t = pre ns ys i ++ (piece ns ys i ++ rest) := by
  obtain ⟨r, hr⟩ := pre_le (ns := ns) (ys := ys) (i + 1) (ns.length - (i + 1))
  rw [show i + 1 + (ns.length - (i + 1)) = ns.length by omega] at hr
  exact ⟨r ++ t, by rw [hr, pre]; simp only [List.append_assoc]⟩
theorem pre_bytes {ns : List Int} {ys : List Bool} : ∀ i, Bytes (pre ns ys i)
  | 0 => fun x hx => by simp [pre] at hx
  | i + 1 => fun x hx => by
    rcases List.mem_append.mp hx with q | q
    · exact pre_bytes (ns := ns) (ys := ys) i x q
    · unfold piece at q
      split at q
      · rcases List.mem_append.mp q with q | q
        · exact enc_bytes _ x q
        · rw [List.mem_singleton.mp q]; unfold yb; split <;> omega
      · exact enc_bytes _ x q
/-- the number at i is read -/
theorem pre_num {ns : List Int} {ys : List Bool} (hn : ∀ x ∈ ns, I64 x) {i : Nat} (h : i < ns.length) (t : List Int) : rdNum (pre ns ys ns.length ++ t) (pre ns ys i).length = (rd ns (i : Int), (pre ns ys i).length + (enc (rd ns (i : Int))).length, 0) := by
  obtain ⟨r, hr⟩ := pre_at (ys := ys) h t
  have : ∃ r', (pre ns ys ns.length ++ t).drop (pre ns ys i).length = enc (rd ns (i : Int)) ++ r' := by
    rw [hr, List.drop_left]
    unfold piece
    split
    · exact ⟨_, List.append_assoc _ _ _⟩
    · exact ⟨_, rfl⟩
  obtain ⟨r', h2⟩ := this
  exact rdNum_enc (hn _ (rd_mem h)) _ r' _ h2
/-- the truth behind it is read -/
theorem pre_bool {ns : List Int} {ys : List Bool} {i : Nat} (h : i < ns.length) (hy : i < ys.length) (t : List Int) (hl : (pre ns ys ns.length ++ t).length < 4611686018427387904) :
    code_Reader_Bool.f (pre ns ys ns.length ++ t) (((pre ns ys i).length + (enc (rd ns (i : Int))).length : Nat) : Int) 0 = some (rdOf false ys (i : Int), ((pre ns ys (i + 1)).length : Int), 0) := by
  obtain ⟨r, hr⟩ := pre_at (ys := ys) h t
  have hp : piece ns ys i = enc (rd ns (i : Int)) ++ [yb (rdOf false ys (i : Int))] := by unfold piece; rw [if_pos hy]
  have hr2 : pre ns ys ns.length ++ t = (pre ns ys i ++ enc (rd ns (i : Int))) ++ (yb (rdOf false ys (i : Int)) :: r) := by rw [hr, hp]; simp only [List.append_assoc, List.singleton_append]
  have hlt : (pre ns ys i).length + (enc (rd ns (i : Int))).length < (pre ns ys ns.length ++ t).length := by rw [hr2]; simp only [List.length_append, List.length_cons]; omega
  have hget : (pre ns ys ns.length ++ t)[(pre ns ys i).length + (enc (rd ns (i : Int))).length]'hlt = yb (rdOf false ys (i : Int)) := by
    have e : ∀ (a b : List Int) (k : Nat) (hk : k < a.length), a = b → ∃ hk' : k < b.length, a[k] = b[k] := fun a b k hk h => by subst h; exact ⟨hk, rfl⟩
    obtain ⟨hk', h2⟩ := e _ _ _ hlt hr2
    rw [h2, List.getElem_append_right (by rw [List.length_append]; omega)]
    simp
  have hlen : (pre ns ys (i + 1)).length = (pre ns ys i).length + (enc (rd ns (i : Int))).length + 1 := by
    rw [pre, hp]; simp only [List.length_append, List.length_singleton]; omega
  unfold code_Reader_Bool.f
  rw [byte_at hlt hl, hget, Option.bind_some]
  dsimp only
  rw [hlen]
  cases rdOf false ys (i : Int)
  · rfl
  · rfl
theorem pre_next {ns : List Int} {ys : List Bool} {i : Nat} (hy : ¬ i < ys.length) : (pre ns ys (i + 1)).length = (pre ns ys i).length + (enc (rd ns (i : Int))).length := by
  rw [pre]; unfold piece; rw [if_neg hy, List.length_append]
end Go.Proofs.Ytpbchkgahjafeaa.Pure.Code
