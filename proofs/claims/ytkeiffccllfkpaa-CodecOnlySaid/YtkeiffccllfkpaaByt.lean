/- Bytes of small encodings. -/
import Derived.Test.YtkeiffccllfkpaaN14
namespace Go.Proofs.Ytkeiffccllfkpaa
open Go.RowKit

theorem encC_byt (v : V) : ∀ b ∈ encC v, b < 256 := app_byte (fun b hb => enc_byte _ b hb) (fun b hb => by
  split at hb
  · exact enc_byte _ b hb
  · split at hb
    · unfold encT at hb
      rcases List.mem_append.1 hb with h | h
      · exact enc_byte _ b h
      · exact by_lt _ b h
    · simp at hb)
theorem encV_byt (v : V) : ∀ b ∈ encV v, b < 256 := encC_byt _
theorem encIdf_byt (x : Idf) : ∀ b ∈ encIdf x, b < 256 := app_byte (fun b hb => by
  unfold encT at hb
  rcases List.mem_append.1 hb with h | h
  · exact enc_byte _ b h
  · exact by_lt _ b h) (encV_byt _)
theorem encReq_byt (x : Req) : ∀ b ∈ encReq x, b < 256 := app_byte (enc_byte _) (app_byte (encIdf_byt _) (app_byte (enc_byte _) (app_byte (enc_byte _) (enc_byte _))))
theorem encLnk_byt (x : Lnk) : ∀ b ∈ encLnk x, b < 256 := app_byte (encIdf_byt _) (app_byte (encIdf_byt _) (app_byte (enc_byte _) (enc_byte _)))
theorem encHld_byt (x : Hld) : ∀ b ∈ encHld x, b < 256 := app_byte (enc_byte _) (app_byte (enc_byte _) (app_byte (encIdf_byt _) (app_byte (enc_byte _) (app_byte (enc_byte _) (enc_byte _)))))
end Go.Proofs.Ytkeiffccllfkpaa
