/- string(b) of bytes that are known. -/
import Derived.Test.YtdmbilfcffmehaaMem
set_option linter.unusedVariables false
set_option linter.unusedSimpArgs false
namespace Go.Proofs.Ytdmbilfcffmehaa
open Go.RowKit

def strOf (xs : List Int) : ByteArray := xs.foldl (fun r n => r.push (UInt8.ofNat n.toNat)) ByteArray.empty

theorem add_addr (b o i : Nat) : (⟨b, o, none⟩ : Addr).add i = ⟨b, o + i, none⟩ := by unfold Addr.add; split <;> simp_all

theorem run_string_row {P : Program} {w : World} {src dst e : TypeId} {p : Option Addr} {n cap : Nat} {xs : List Int} (hs : P.underlying src = some (.slice e)) (he : P.underlying e = some (.int .u8)) (hd : P.underlying dst = some .string)
    (hn : xs.length = n) (hr : Row w p (u8s xs)) : (convert src dst (.slice p n cap)).run P w = .ok (.string (strOf xs)) w := by
  rw [run_convert_bytes_string w src dst e p n cap hs he hd]
  subst hn
  rcases hr with he | ⟨b, o, rfl, hc⟩
  · have hx : xs = [] := by simpa [u8s] using he
    subst hx
    cases p with
    | none => simp [Conv.bytesToString, strOf, Sem.run_pure]
    | some a => exact run_bytesToString w a 0 cap [] (by rw [run_loadCells w a 0 (fun _ => undef) (fun j hj => absurd hj (Nat.not_lt_zero _))]; rfl)
  · refine run_bytesToString w ⟨b, o, none⟩ _ cap xs ?_
    have h := run_loadCells_list (P := P) w ⟨b, o, none⟩ (u8s xs) (fun j v hj => by
      have hjl : j < (u8s xs).length := (List.getElem?_eq_some_iff.1 hj).1
      rw [add_addr, hc j hjl, List.getD_eq_getElem?_getD, hj]
      rfl)
    rw [u8s_length] at h
    exact h
end Go.Proofs.Ytdmbilfcffmehaa
