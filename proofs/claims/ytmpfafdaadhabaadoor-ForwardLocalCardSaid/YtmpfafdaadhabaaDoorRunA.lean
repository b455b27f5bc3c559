/- Chapter 13 (forward): proved is, of functions that the law reaches, that the evaluator comes to the printed term; no conditions. -/
import Derived.Test.YtmpfafdaadhabaaDoorAbsD
import Derived.Test.YtmpfafdaadhabaaDoorProg
import Derived.KernelRfl
set_option linter.unusedVariables false
set_option linter.unusedSimpArgs false
namespace Go.Abs.C13
open Go.Proofs
def tab : List (Nat × TI) := [
  (3, { size := 1, bytes := 8, agg := false, ty := (.int .i64), desc := (.int .i64), zero := [(.int .i64 0)], arr := none, cmp := none }),
  (4, { size := 1, bytes := 1, agg := false, ty := .bool, desc := .bool, zero := [(.bool false)], arr := none, cmp := none }),
  (5, { size := 1, bytes := 1, agg := false, ty := (.int .u8), desc := (.int .u8), zero := [(.int .u8 0)], arr := none, cmp := none }),
  (9, { size := 1, bytes := 16, agg := false, ty := .str, desc := .string, zero := [(.str [])], arr := none, cmp := none }),
  (22, { size := 1, bytes := 24, agg := false, ty := (.sl (.int .i64)), desc := (.slice 3), zero := [(.sl 2 (.int .i64) [])], arr := none, cmp := none }),
  (23, { size := 1, bytes := 8, agg := false, ty := .unit, desc := (.pointer 67), zero := [.undef], arr := none, cmp := none }),
  (25, { size := 1, bytes := 24, agg := false, ty := (.sl (.st 32 (.cons (.int .i64) (.cons (.sl (.int .i64)) .unit)))), desc := (.slice 83), zero := [(.sl 2 (.st 32 (.cons (.int .i64) (.cons (.sl (.int .i64)) .unit))) [])], arr := none, cmp := none }),
  (27, { size := 4, bytes := 48, agg := true, ty := (.st 48 (.cons (.int .i64) (.cons (.int .i64) (.cons (.int .i64) (.cons (.sl (.st 32 (.cons (.int .i64) (.cons (.sl (.int .i64)) .unit)))) .unit))))), desc := (.struct #[{ name := "Router", type := 3, offset := 0, byteOffset := 0, embedded := false, tag := "", pkgPath := "" }, { name := "Subdomain", type := 3, offset := 1, byteOffset := 8, embedded := false, tag := "", pkgPath := "" }, { name := "Length", type := 3, offset := 2, byteOffset := 16, embedded := false, tag := "", pkgPath := "" }, { name := "Rows", type := 25, offset := 3, byteOffset := 24, embedded := false, tag := "", pkgPath := "" }]), zero := [(.int .i64 0), (.int .i64 0), (.int .i64 0), (.sl 2 (.st 32 (.cons (.int .i64) (.cons (.sl (.int .i64)) .unit))) [])], arr := none, cmp := none }),
  (28, { size := 1, bytes := 8, agg := false, ty := (.int .u64), desc := (.int .u64), zero := [(.int .u64 0)], arr := none, cmp := none }),
  (30, { size := 10, bytes := 88, agg := true, ty := (.st 88 (.cons (.int .i64) (.cons (.int .i64) (.cons (.int .i64) (.cons (.int .i64) (.cons (.int .i64) (.cons (.int .i64) (.cons (.int .i64) (.cons (.int .i64) (.cons (.int .u64) (.cons .str .unit))))))))))), desc := (.struct #[{ name := "Mode", type := 3, offset := 0, byteOffset := 0, embedded := false, tag := "", pkgPath := "" }, { name := "Subdomain", type := 3, offset := 1, byteOffset := 8, embedded := false, tag := "", pkgPath := "" }, { name := "Set", type := 3, offset := 2, byteOffset := 16, embedded := false, tag := "", pkgPath := "" }, { name := "Length", type := 3, offset := 3, byteOffset := 24, embedded := false, tag := "", pkgPath := "" }, { name := "TTL", type := 3, offset := 4, byteOffset := 32, embedded := false, tag := "", pkgPath := "" }, { name := "Entropy", type := 3, offset := 5, byteOffset := 40, embedded := false, tag := "", pkgPath := "" }, { name := "Ingress", type := 3, offset := 6, byteOffset := 48, embedded := false, tag := "", pkgPath := "" }, { name := "Proto", type := 3, offset := 7, byteOffset := 56, embedded := false, tag := "", pkgPath := "" }, { name := "Bits", type := 28, offset := 8, byteOffset := 64, embedded := false, tag := "", pkgPath := "" }, { name := "Payload", type := 9, offset := 9, byteOffset := 72, embedded := false, tag := "", pkgPath := "" }]), zero := [(.int .i64 0), (.int .i64 0), (.int .i64 0), (.int .i64 0), (.int .i64 0), (.int .i64 0), (.int .i64 0), (.int .i64 0), (.int .u64 0), (.str [])], arr := none, cmp := some [0, 0, 0, 0, 0, 0, 0, 0, 0, 2] }),
  (33, { size := 1, bytes := 24, agg := false, ty := (.sl (.st 120 (.cons (.int .i64) (.cons (.st 112 (.cons (.sl (.int .i64)) (.cons (.st 88 (.cons (.int .i64) (.cons (.int .i64) (.cons (.int .i64) (.cons (.int .i64) (.cons (.int .i64) (.cons (.int .i64) (.cons (.int .i64) (.cons (.int .i64) (.cons (.int .u64) (.cons .str .unit))))))))))) .unit))) .unit)))), desc := (.slice 43), zero := [(.sl 2 (.st 120 (.cons (.int .i64) (.cons (.st 112 (.cons (.sl (.int .i64)) (.cons (.st 88 (.cons (.int .i64) (.cons (.int .i64) (.cons (.int .i64) (.cons (.int .i64) (.cons (.int .i64) (.cons (.int .i64) (.cons (.int .i64) (.cons (.int .i64) (.cons (.int .u64) (.cons .str .unit))))))))))) .unit))) .unit))) [])], arr := none, cmp := none }),
  (35, { size := 3, bytes := 40, agg := true, ty := (.st 40 (.cons (.int .u64) (.cons (.int .u64) (.cons (.sl (.st 120 (.cons (.int .i64) (.cons (.st 112 (.cons (.sl (.int .i64)) (.cons (.st 88 (.cons (.int .i64) (.cons (.int .i64) (.cons (.int .i64) (.cons (.int .i64) (.cons (.int .i64) (.cons (.int .i64) (.cons (.int .i64) (.cons (.int .i64) (.cons (.int .u64) (.cons .str .unit))))))))))) .unit))) .unit)))) .unit)))), desc := (.struct #[{ name := "Local", type := 28, offset := 0, byteOffset := 0, embedded := false, tag := "", pkgPath := "" }, { name := "Lost", type := 28, offset := 1, byteOffset := 8, embedded := false, tag := "", pkgPath := "" }, { name := "Copies", type := 33, offset := 2, byteOffset := 16, embedded := false, tag := "", pkgPath := "" }]), zero := [(.int .u64 0), (.int .u64 0), (.sl 2 (.st 120 (.cons (.int .i64) (.cons (.st 112 (.cons (.sl (.int .i64)) (.cons (.st 88 (.cons (.int .i64) (.cons (.int .i64) (.cons (.int .i64) (.cons (.int .i64) (.cons (.int .i64) (.cons (.int .i64) (.cons (.int .i64) (.cons (.int .i64) (.cons (.int .u64) (.cons .str .unit))))))))))) .unit))) .unit))) [])], arr := none, cmp := none }),
  (36, { size := 1, bytes := 8, agg := false, ty := (.int .i64), desc := (.int .i64), zero := [(.int .i64 0)], arr := none, cmp := none }),
  (41, { size := 11, bytes := 112, agg := true, ty := (.st 112 (.cons (.sl (.int .i64)) (.cons (.st 88 (.cons (.int .i64) (.cons (.int .i64) (.cons (.int .i64) (.cons (.int .i64) (.cons (.int .i64) (.cons (.int .i64) (.cons (.int .i64) (.cons (.int .i64) (.cons (.int .u64) (.cons .str .unit))))))))))) .unit))), desc := (.struct #[{ name := "Route", type := 22, offset := 0, byteOffset := 0, embedded := false, tag := "", pkgPath := "" }, { name := "Packet", type := 30, offset := 1, byteOffset := 24, embedded := false, tag := "", pkgPath := "" }]), zero := [(.sl 2 (.int .i64) []), (.int .i64 0), (.int .i64 0), (.int .i64 0), (.int .i64 0), (.int .i64 0), (.int .i64 0), (.int .i64 0), (.int .i64 0), (.int .u64 0), (.str [])], arr := none, cmp := none }),
  (43, { size := 12, bytes := 120, agg := true, ty := (.st 120 (.cons (.int .i64) (.cons (.st 112 (.cons (.sl (.int .i64)) (.cons (.st 88 (.cons (.int .i64) (.cons (.int .i64) (.cons (.int .i64) (.cons (.int .i64) (.cons (.int .i64) (.cons (.int .i64) (.cons (.int .i64) (.cons (.int .i64) (.cons (.int .u64) (.cons .str .unit))))))))))) .unit))) .unit))), desc := (.struct #[{ name := "To", type := 3, offset := 0, byteOffset := 0, embedded := false, tag := "", pkgPath := "" }, { name := "Frame", type := 41, offset := 1, byteOffset := 8, embedded := false, tag := "", pkgPath := "" }]), zero := [(.int .i64 0), (.sl 2 (.int .i64) []), (.int .i64 0), (.int .i64 0), (.int .i64 0), (.int .i64 0), (.int .i64 0), (.int .i64 0), (.int .i64 0), (.int .i64 0), (.int .u64 0), (.str [])], arr := none, cmp := none }),
  (57, { size := 1, bytes := 24, agg := false, ty := (.sl (.st 96 (.cons (.int .i64) (.cons (.st 88 (.cons (.int .i64) (.cons (.int .i64) (.cons (.int .i64) (.cons (.int .i64) (.cons (.int .i64) (.cons (.int .i64) (.cons (.int .i64) (.cons (.int .i64) (.cons (.int .u64) (.cons .str .unit))))))))))) .unit)))), desc := (.slice 64), zero := [(.sl 2 (.st 96 (.cons (.int .i64) (.cons (.st 88 (.cons (.int .i64) (.cons (.int .i64) (.cons (.int .i64) (.cons (.int .i64) (.cons (.int .i64) (.cons (.int .i64) (.cons (.int .i64) (.cons (.int .i64) (.cons (.int .u64) (.cons .str .unit))))))))))) .unit))) [])], arr := none, cmp := none }),
  (61, { size := 2, bytes := 48, agg := true, ty := (.st 48 (.cons (.sl (.st 96 (.cons (.int .i64) (.cons (.st 88 (.cons (.int .i64) (.cons (.int .i64) (.cons (.int .i64) (.cons (.int .i64) (.cons (.int .i64) (.cons (.int .i64) (.cons (.int .i64) (.cons (.int .i64) (.cons (.int .u64) (.cons .str .unit))))))))))) .unit)))) (.cons (.sl (.st 96 (.cons (.int .i64) (.cons (.st 88 (.cons (.int .i64) (.cons (.int .i64) (.cons (.int .i64) (.cons (.int .i64) (.cons (.int .i64) (.cons (.int .i64) (.cons (.int .i64) (.cons (.int .i64) (.cons (.int .u64) (.cons .str .unit))))))))))) .unit)))) .unit))), desc := (.array 2 57), zero := [(.sl 2 (.st 96 (.cons (.int .i64) (.cons (.st 88 (.cons (.int .i64) (.cons (.int .i64) (.cons (.int .i64) (.cons (.int .i64) (.cons (.int .i64) (.cons (.int .i64) (.cons (.int .i64) (.cons (.int .i64) (.cons (.int .u64) (.cons .str .unit))))))))))) .unit))) []), (.sl 2 (.st 96 (.cons (.int .i64) (.cons (.st 88 (.cons (.int .i64) (.cons (.int .i64) (.cons (.int .i64) (.cons (.int .i64) (.cons (.int .i64) (.cons (.int .i64) (.cons (.int .i64) (.cons (.int .i64) (.cons (.int .u64) (.cons .str .unit))))))))))) .unit))) [])], arr := some (.sl (.st 96 (.cons (.int .i64) (.cons (.st 88 (.cons (.int .i64) (.cons (.int .i64) (.cons (.int .i64) (.cons (.int .i64) (.cons (.int .i64) (.cons (.int .i64) (.cons (.int .i64) (.cons (.int .i64) (.cons (.int .u64) (.cons .str .unit))))))))))) .unit)))), cmp := none }),
  (62, { size := 1, bytes := 24, agg := false, ty := (.sl (.st 48 (.cons (.sl (.st 96 (.cons (.int .i64) (.cons (.st 88 (.cons (.int .i64) (.cons (.int .i64) (.cons (.int .i64) (.cons (.int .i64) (.cons (.int .i64) (.cons (.int .i64) (.cons (.int .i64) (.cons (.int .i64) (.cons (.int .u64) (.cons .str .unit))))))))))) .unit)))) (.cons (.sl (.st 96 (.cons (.int .i64) (.cons (.st 88 (.cons (.int .i64) (.cons (.int .i64) (.cons (.int .i64) (.cons (.int .i64) (.cons (.int .i64) (.cons (.int .i64) (.cons (.int .i64) (.cons (.int .i64) (.cons (.int .u64) (.cons .str .unit))))))))))) .unit)))) .unit)))), desc := (.slice 61), zero := [(.sl 2 (.st 48 (.cons (.sl (.st 96 (.cons (.int .i64) (.cons (.st 88 (.cons (.int .i64) (.cons (.int .i64) (.cons (.int .i64) (.cons (.int .i64) (.cons (.int .i64) (.cons (.int .i64) (.cons (.int .i64) (.cons (.int .i64) (.cons (.int .u64) (.cons .str .unit))))))))))) .unit)))) (.cons (.sl (.st 96 (.cons (.int .i64) (.cons (.st 88 (.cons (.int .i64) (.cons (.int .i64) (.cons (.int .i64) (.cons (.int .i64) (.cons (.int .i64) (.cons (.int .i64) (.cons (.int .i64) (.cons (.int .i64) (.cons (.int .u64) (.cons .str .unit))))))))))) .unit)))) .unit))) [])], arr := none, cmp := none }),
  (64, { size := 11, bytes := 96, agg := true, ty := (.st 96 (.cons (.int .i64) (.cons (.st 88 (.cons (.int .i64) (.cons (.int .i64) (.cons (.int .i64) (.cons (.int .i64) (.cons (.int .i64) (.cons (.int .i64) (.cons (.int .i64) (.cons (.int .i64) (.cons (.int .u64) (.cons .str .unit))))))))))) .unit))), desc := (.struct #[{ name := "Router", type := 3, offset := 0, byteOffset := 0, embedded := false, tag := "", pkgPath := "" }, { name := "Packet", type := 30, offset := 1, byteOffset := 8, embedded := false, tag := "", pkgPath := "" }]), zero := [(.int .i64 0), (.int .i64 0), (.int .i64 0), (.int .i64 0), (.int .i64 0), (.int .i64 0), (.int .i64 0), (.int .i64 0), (.int .i64 0), (.int .u64 0), (.str [])], arr := none, cmp := some [0, 0, 0, 0, 0, 0, 0, 0, 0, 0, 2] }),
  (67, { size := 2, bytes := 32, agg := true, ty := (.st 32 (.cons (.sl (.int .i64)) (.cons (.int .i64) .unit))), desc := (.struct #[{ name := "L", type := 22, offset := 0, byteOffset := 0, embedded := false, tag := "", pkgPath := "" }, { name := "At", type := 3, offset := 1, byteOffset := 24, embedded := false, tag := "", pkgPath := "" }]), zero := [(.sl 2 (.int .i64) []), (.int .i64 0)], arr := none, cmp := none }),
  (68, { size := 1, bytes := 24, agg := false, ty := (.sl (.st 16 (.cons (.int .i64) (.cons .bool .unit)))), desc := (.slice 109), zero := [(.sl 2 (.st 16 (.cons (.int .i64) (.cons .bool .unit))) [])], arr := none, cmp := none }),
  (69, { size := 1, bytes := 24, agg := false, ty := (.sl (.st 40 (.cons (.int .i64) (.cons (.int .i64) (.cons (.int .i64) (.cons (.int .i64) (.cons (.int .i64) .unit))))))), desc := (.slice 128), zero := [(.sl 2 (.st 40 (.cons (.int .i64) (.cons (.int .i64) (.cons (.int .i64) (.cons (.int .i64) (.cons (.int .i64) .unit)))))) [])], arr := none, cmp := none }),
  (71, { size := 2, bytes := 48, agg := true, ty := (.st 48 (.cons (.sl (.st 16 (.cons (.int .i64) (.cons .bool .unit)))) (.cons (.sl (.st 40 (.cons (.int .i64) (.cons (.int .i64) (.cons (.int .i64) (.cons (.int .i64) (.cons (.int .i64) .unit))))))) .unit))), desc := (.struct #[{ name := "Routers", type := 68, offset := 0, byteOffset := 0, embedded := false, tag := "", pkgPath := "" }, { name := "Links", type := 69, offset := 1, byteOffset := 24, embedded := false, tag := "", pkgPath := "" }]), zero := [(.sl 2 (.st 16 (.cons (.int .i64) (.cons .bool .unit))) []), (.sl 2 (.st 40 (.cons (.int .i64) (.cons (.int .i64) (.cons (.int .i64) (.cons (.int .i64) (.cons (.int .i64) .unit)))))) [])], arr := none, cmp := none }),
  (73, { size := 1, bytes := 24, agg := false, ty := (.sl (.st 16 (.cons (.int .i64) (.cons (.int .i64) .unit)))), desc := (.slice 81), zero := [(.sl 2 (.st 16 (.cons (.int .i64) (.cons (.int .i64) .unit))) [])], arr := none, cmp := none }),
  (75, { size := 3, bytes := 40, agg := true, ty := (.st 40 (.cons (.int .i64) (.cons (.int .i64) (.cons (.sl (.st 16 (.cons (.int .i64) (.cons (.int .i64) .unit)))) .unit)))), desc := (.struct #[{ name := "Subdomain", type := 3, offset := 0, byteOffset := 0, embedded := false, tag := "", pkgPath := "" }, { name := "Length", type := 3, offset := 1, byteOffset := 8, embedded := false, tag := "", pkgPath := "" }, { name := "Edges", type := 73, offset := 2, byteOffset := 16, embedded := false, tag := "", pkgPath := "" }]), zero := [(.int .i64 0), (.int .i64 0), (.sl 2 (.st 16 (.cons (.int .i64) (.cons (.int .i64) .unit))) [])], arr := none, cmp := none }),
  (81, { size := 2, bytes := 16, agg := true, ty := (.st 16 (.cons (.int .i64) (.cons (.int .i64) .unit))), desc := (.struct #[{ name := "Router", type := 3, offset := 0, byteOffset := 0, embedded := false, tag := "", pkgPath := "" }, { name := "ID", type := 3, offset := 1, byteOffset := 8, embedded := false, tag := "", pkgPath := "" }]), zero := [(.int .i64 0), (.int .i64 0)], arr := none, cmp := some [0, 0] }),
  (83, { size := 2, bytes := 32, agg := true, ty := (.st 32 (.cons (.int .i64) (.cons (.sl (.int .i64)) .unit))), desc := (.struct #[{ name := "ID", type := 3, offset := 0, byteOffset := 0, embedded := false, tag := "", pkgPath := "" }, { name := "Next", type := 22, offset := 1, byteOffset := 8, embedded := false, tag := "", pkgPath := "" }]), zero := [(.int .i64 0), (.sl 2 (.int .i64) [])], arr := none, cmp := none }),
  (84, { size := 1, bytes := 8, agg := false, ty := .unit, desc := (.func #[3] #[4] false), zero := [.undef], arr := none, cmp := none }),
  (94, { size := 1, bytes := 24, agg := false, ty := (.sl (.st 16 (.cons (.int .i64) (.cons (.int .u64) .unit)))), desc := (.slice 97), zero := [(.sl 2 (.st 16 (.cons (.int .i64) (.cons (.int .u64) .unit))) [])], arr := none, cmp := none }),
  (97, { size := 2, bytes := 16, agg := true, ty := (.st 16 (.cons (.int .i64) (.cons (.int .u64) .unit))), desc := (.struct #[{ name := "Neighbour", type := 3, offset := 0, byteOffset := 0, embedded := false, tag := "", pkgPath := "" }, { name := "Bits", type := 28, offset := 1, byteOffset := 8, embedded := false, tag := "", pkgPath := "" }]), zero := [(.int .i64 0), (.int .u64 0)], arr := none, cmp := some [0, 0] }),
  (99, { size := 1, bytes := 8, agg := false, ty := (.int .u64), desc := (.int .u64), zero := [(.int .u64 0)], arr := none, cmp := none }),
  (100, { size := 1, bytes := 24, agg := false, ty := (.sl (.int .u8)), desc := (.slice 5), zero := [(.sl 2 (.int .u8) [])], arr := none, cmp := none }),
  (103, { size := 1, bytes := 24, agg := false, ty := (.sl (.st 48 (.cons (.int .i64) (.cons (.int .i64) (.cons (.int .i64) (.cons (.sl (.st 32 (.cons (.int .i64) (.cons (.sl (.int .i64)) .unit)))) .unit)))))), desc := (.slice 27), zero := [(.sl 2 (.st 48 (.cons (.int .i64) (.cons (.int .i64) (.cons (.int .i64) (.cons (.sl (.st 32 (.cons (.int .i64) (.cons (.sl (.int .i64)) .unit)))) .unit))))) [])], arr := none, cmp := none }),
  (109, { size := 2, bytes := 16, agg := true, ty := (.st 16 (.cons (.int .i64) (.cons .bool .unit))), desc := (.struct #[{ name := "ID", type := 3, offset := 0, byteOffset := 0, embedded := false, tag := "", pkgPath := "" }, { name := "Capable", type := 4, offset := 1, byteOffset := 8, embedded := false, tag := "", pkgPath := "" }]), zero := [(.int .i64 0), (.bool false)], arr := none, cmp := some [0, 1] }),
  (115, { size := 1, bytes := 8, agg := false, ty := .unit, desc := (.func #[83] #[4] false), zero := [.undef], arr := none, cmp := none }),
  (126, { size := 1, bytes := 8, agg := false, ty := .unit, desc := (.pointer 83), zero := [.undef], arr := none, cmp := none }),
  (128, { size := 5, bytes := 40, agg := true, ty := (.st 40 (.cons (.int .i64) (.cons (.int .i64) (.cons (.int .i64) (.cons (.int .i64) (.cons (.int .i64) .unit)))))), desc := (.struct #[{ name := "A", type := 3, offset := 0, byteOffset := 0, embedded := false, tag := "", pkgPath := "" }, { name := "B", type := 3, offset := 1, byteOffset := 8, embedded := false, tag := "", pkgPath := "" }, { name := "CostA", type := 3, offset := 2, byteOffset := 16, embedded := false, tag := "", pkgPath := "" }, { name := "CostB", type := 3, offset := 3, byteOffset := 24, embedded := false, tag := "", pkgPath := "" }, { name := "Capacity", type := 3, offset := 4, byteOffset := 32, embedded := false, tag := "", pkgPath := "" }]), zero := [(.int .i64 0), (.int .i64 0), (.int .i64 0), (.int .i64 0), (.int .i64 0)], arr := none, cmp := some [0, 0, 0, 0, 0] }),
  (133, { size := 64, bytes := 64, agg := true, ty := (.st 64 (.cons (.int .u8) (.cons (.int .u8) (.cons (.int .u8) (.cons (.int .u8) (.cons (.int .u8) (.cons (.int .u8) (.cons (.int .u8) (.cons (.int .u8) (.cons (.int .u8) (.cons (.int .u8) (.cons (.int .u8) (.cons (.int .u8) (.cons (.int .u8) (.cons (.int .u8) (.cons (.int .u8) (.cons (.int .u8) (.cons (.int .u8) (.cons (.int .u8) (.cons (.int .u8) (.cons (.int .u8) (.cons (.int .u8) (.cons (.int .u8) (.cons (.int .u8) (.cons (.int .u8) (.cons (.int .u8) (.cons (.int .u8) (.cons (.int .u8) (.cons (.int .u8) (.cons (.int .u8) (.cons (.int .u8) (.cons (.int .u8) (.cons (.int .u8) (.cons (.int .u8) (.cons (.int .u8) (.cons (.int .u8) (.cons (.int .u8) (.cons (.int .u8) (.cons (.int .u8) (.cons (.int .u8) (.cons (.int .u8) (.cons (.int .u8) (.cons (.int .u8) (.cons (.int .u8) (.cons (.int .u8) (.cons (.int .u8) (.cons (.int .u8) (.cons (.int .u8) (.cons (.int .u8) (.cons (.int .u8) (.cons (.int .u8) (.cons (.int .u8) (.cons (.int .u8) (.cons (.int .u8) (.cons (.int .u8) (.cons (.int .u8) (.cons (.int .u8) (.cons (.int .u8) (.cons (.int .u8) (.cons (.int .u8) (.cons (.int .u8) (.cons (.int .u8) (.cons (.int .u8) (.cons (.int .u8) (.cons (.int .u8) .unit))))))))))))))))))))))))))))))))))))))))))))))))))))))))))))))))), desc := (.array 64 5), zero := [(.int .u8 0), (.int .u8 0), (.int .u8 0), (.int .u8 0), (.int .u8 0), (.int .u8 0), (.int .u8 0), (.int .u8 0), (.int .u8 0), (.int .u8 0), (.int .u8 0), (.int .u8 0), (.int .u8 0), (.int .u8 0), (.int .u8 0), (.int .u8 0), (.int .u8 0), (.int .u8 0), (.int .u8 0), (.int .u8 0), (.int .u8 0), (.int .u8 0), (.int .u8 0), (.int .u8 0), (.int .u8 0), (.int .u8 0), (.int .u8 0), (.int .u8 0), (.int .u8 0), (.int .u8 0), (.int .u8 0), (.int .u8 0), (.int .u8 0), (.int .u8 0), (.int .u8 0), (.int .u8 0), (.int .u8 0), (.int .u8 0), (.int .u8 0), (.int .u8 0), (.int .u8 0), (.int .u8 0), (.int .u8 0), (.int .u8 0), (.int .u8 0), (.int .u8 0), (.int .u8 0), (.int .u8 0), (.int .u8 0), (.int .u8 0), (.int .u8 0), (.int .u8 0), (.int .u8 0), (.int .u8 0), (.int .u8 0), (.int .u8 0), (.int .u8 0), (.int .u8 0), (.int .u8 0), (.int .u8 0), (.int .u8 0), (.int .u8 0), (.int .u8 0), (.int .u8 0)], arr := some (.int .u8), cmp := none })]
def cl : List (Nat × List Nat) := [(30, [0, 0, 0, 0, 0, 0, 0, 0, 0, 2]), (64, [0, 0, 0, 0, 0, 0, 0, 0, 0, 0, 2]), (81, [0, 0]), (97, [0, 0]), (109, [0, 1]), (128, [0, 0, 0, 0, 0])]
def gl : List (Nat × (IntKind × List Int)) := [(0, (.u8, [0,1,56,2,57,49,28,3,61,58,42,50,38,29,17,4,62,47,59,36,45,43,51,22,53,39,33,30,24,18,12,5,63,55,48,27,60,41,37,16,46,35,44,21,52,32,23,11,54,26,40,15,34,20,31,10,25,14,19,9,13,8,7,6]))]
theorem tab_ok : tab.map (fun p => tiOf Tryd.prog cl p.1) = tab.map (fun p => some p.2) := by kernel_rfl
theorem cl_ok : cl.map (fun p => (kindsB Tryd.prog 8 p.1, Tryd.prog.eqGuardType Tryd.prog.depth p.1)) = cl.map (fun p => (some p.2, false)) := by kernel_rfl
theorem pok (n : Nat) (hp : Bool) (md : List (Nat × Nat)) : POk Tryd.prog (mkE tab gl n hp md) := pok_of cl tab_ok cl_ok n hp md
theorem mix : Tryd.prog.follows .mixedOrders = true := by kernel_rfl
abbrev hA1 : Sh := .lf (.int .i64)
abbrev hA2 : Sh := .lf .bool
abbrev hA3 : Sh := .boxv 1 true [(.sl 0 (.int .i64)), (.int .i64)]
abbrev hA4 : Sh := .lf (.sl 2 (.int .i64))
abbrev hA5 : Sh := .boxv 1 true [(.sl 2 (.st 16 (.cons (.int .i64) (.cons .bool .unit)))), (.sl 2 (.st 40 (.cons (.int .i64) (.cons (.int .i64) (.cons (.int .i64) (.cons (.int .i64) (.cons (.int .i64) .unit)))))))]
abbrev hA6 : Sh := .boxv 1 true [(.int .i64), (.int .i64), (.int .i64), (.int .i64), (.int .i64), (.int .i64), (.int .i64), (.int .i64), (.int .u64), .str]
abbrev hA7 : Sh := .lf (.int .u64)
abbrev hA8 : Sh := .boxv 1 true [(.int .i64), (.int .i64), (.sl 2 (.st 16 (.cons (.int .i64) (.cons (.int .i64) .unit))))]
abbrev hA9 : Sh := .boxv 1 true [(.int .i64), (.sl 2 (.int .i64))]
abbrev hA10 : Sh := .lf (.sl 0 (.int .i64))
abbrev hA11 : Sh := .lf (.sl 2 (.st 40 (.cons (.int .i64) (.cons (.int .i64) (.cons (.int .i64) (.cons (.int .i64) (.cons (.int .i64) .unit)))))))
abbrev hA12 : Sh := .boxv 1 true [(.int .i64), (.int .i64), (.int .i64), (.sl 2 (.st 32 (.cons (.int .i64) (.cons (.sl (.int .i64)) .unit))))]
abbrev hA13 : Sh := .boxv 1 true [(.int .i64), (.int .i64), (.int .i64), (.sl 0 (.st 32 (.cons (.int .i64) (.cons (.sl (.int .i64)) .unit))))]
abbrev hA14 : Sh := .lf (.sl 2 (.st 96 (.cons (.int .i64) (.cons (.st 88 (.cons (.int .i64) (.cons (.int .i64) (.cons (.int .i64) (.cons (.int .i64) (.cons (.int .i64) (.cons (.int .i64) (.cons (.int .i64) (.cons (.int .i64) (.cons (.int .u64) (.cons .str .unit))))))))))) .unit))))
abbrev hA15 : Sh := .boxv 1 true [(.int .i64), (.sl 0 (.int .i64))]
abbrev hA16 : Sh := .boxv 1 true [(.int .u64), (.int .u64), (.sl 2 (.st 120 (.cons (.int .i64) (.cons (.st 112 (.cons (.sl (.int .i64)) (.cons (.st 88 (.cons (.int .i64) (.cons (.int .i64) (.cons (.int .i64) (.cons (.int .i64) (.cons (.int .i64) (.cons (.int .i64) (.cons (.int .i64) (.cons (.int .i64) (.cons (.int .u64) (.cons .str .unit))))))))))) .unit))) .unit))))]
abbrev hA18 : Sh := .lf (.sl 2 (.st 48 (.cons (.int .i64) (.cons (.int .i64) (.cons (.int .i64) (.cons (.sl (.st 32 (.cons (.int .i64) (.cons (.sl (.int .i64)) .unit)))) .unit))))))
abbrev hA19 : Sh := .lf (.sl 2 (.st 32 (.cons (.int .i64) (.cons (.sl (.int .i64)) .unit))))
abbrev hL1 : List Nat := [8, 34, 20, 10, 22, 24, 26, 28, 30, 32, 36, 16, 18]
abbrev hL2 : List Nat := [12, 28, 26, 24, 22, 20, 18, 16, 14]
abbrev hL3 : List Nat := [184, 186, 174, 176, 164, 166, 154, 156, 142, 144, 132, 134, 122, 124, 112, 114, 82, 80, 78]
abbrev hL4 : List Nat := [4, 32, 30, 28, 26, 24, 22, 20, 18, 16, 14, 12, 10, 8, 6]
abbrev hL5 : List Nat := [8, 26, 24, 22, 20, 18, 16, 14, 12, 10]
abbrev hL6 : List Nat := [4, 106, 104, 102, 100, 98, 96, 94, 92, 90, 88, 86, 84, 82, 80, 78, 76, 74, 72, 70, 68, 66, 64, 62, 60, 58, 56, 54, 52, 50, 48, 46, 44, 42, 40, 38, 36, 34, 32, 30, 28, 26, 24, 22, 20, 18, 16, 14, 12, 10, 8, 6]
abbrev hL7 : List Nat := [120, 118, 116, 140, 138, 136, 162, 160, 158, 182, 180, 178, 78, 80, 82, 114, 112, 124, 122, 134, 132, 144, 142, 156, 154, 166, 164, 176, 174, 186, 184, 90, 88, 86, 84, 98, 96, 94, 92, 100, 102, 104, 106, 1, 108, 110, 13, 188, 190, 192, 168, 170, 172, 146, 150, 148, 152, 126, 128, 130]
abbrev hL8 : List Nat := [206, 210, 214, 212, 216, 218, 208, 222, 220, 263, 280, 278, 276, 274, 272, 270, 268, 266, 264, 262, 260, 258, 256, 254, 252, 253, 331, 348, 346, 344, 342, 340, 338, 336, 334, 332, 330, 328, 326, 324, 322, 320, 321, 188, 192, 194, 196, 190, 200, 15, 198, 184, 186, 30, 180, 182, 350, 352, 316, 318, 282, 284, 248, 250, 224, 226, 202, 204, 178, 176, 174, 355, 354, 356, 358, 360, 386, 388, 365, 384, 382, 380, 1, 378, 376, 374, 372, 370, 368, 366, 364, 362, 287, 286, 288, 290, 292, 294, 296, 298, 300, 302, 304, 306, 308, 310, 312, 314, 297, 244, 246, 230, 242, 240, 238, 236, 234, 232, 228]
abbrev hL9 : List Nat := [350, 352, 316, 318, 282, 284, 248, 250, 224, 226, 202, 204, 178, 176, 174]
abbrev hL10 : List Nat := [154, 152, 150, 172, 176, 180, 178, 182, 186, 184, 188, 190, 174, 194, 192, 130, 134, 136, 138, 140, 132, 144, 15, 142, 201, 16, 124, 126, 128, 148, 146, 158, 156, 170, 168, 198, 196, 200, 202, 204, 206, 208, 210, 212, 214, 1, 216, 218, 209, 160, 164, 162, 166]
abbrev hL11 : List Nat := [18, 20, 22, 24, 26, 28, 30, 32, 34, 36, 38, 40, 42, 44, 46]
abbrev hL13 : List Nat := [26, 24, 22, 20, 36, 34, 18, 32, 30, 12, 10, 0, 2, 4, 6]
abbrev hL14 : List Nat := [28, 126, 124, 122, 120, 118, 116, 114, 112, 110, 108, 106, 104, 102, 96, 94]
abbrev E8 : Env := mkE tab gl 11 false [(6, 1), (8, 1), (0, 2), (10, 2), (2, 2)]
abbrev plan8 : Plan := (.sq .go (.sq (.sq .go (.cut [12, 14, 0] [⟨0, [(0, hA10)], [10, 8, 6]⟩] .go)) .go))

abbrev E83 : Env := mkE tab gl 12 false [(7, 1), (4, 2)]
abbrev plan83 : Plan := (.sq .go (.sq (.cut [8, 22, 20, 18, 16, 14, 12, 10] [⟨0, [(8, hA2)], [0, 2]⟩] .go) .go))

abbrev E17 : Env := mkE tab gl 12 false [(5, 1), (9, 1), (2, 2)]
abbrev plan17 : Plan := (.sq .go (.sq (.sq (.cut [16, 14, 12, 10, 8, 6] [⟨0, [(16, hA2)], []⟩] .go) (.sq .go .go)) .go))

abbrev E80 : Env := mkE tab gl 17 false [(5, 1), (9, 1), (13, 1), (2, 2)]
abbrev plan80 : Plan := (.sq .go (.sq (.cut hL4 [⟨0, [(4, hA2)], [0]⟩] .go) .go))

abbrev E54 : Env := mkE tab gl 18 false [(17, 1), (13, 1), (11, 1), (3, 2), (4, 2), (2, 2)]
abbrev plan54 : Plan := (.sq .go (.sq (.sq .go (.sq .go .go)) (.sq .go (.sq (.sq .go (.sq (.loop [8, 24, 22, 6, 32, 30, 28, 26, 16, 18, 20] [(8, hA1), (6, hA7)] [14, 12, 10, 4] [⟨2, [(6, hA7)], [8, 14, 12, 10, 0]⟩] (.sq (.sq .go .go) (.sq .go .go))) .go)) .go))))

abbrev E84 : Env := mkE tab gl 14 false [(7, 1), (4, 2)]
abbrev plan84 : Plan := (.sq .go (.sq (.cut hL5 [⟨0, [(8, hA2)], [0, 2]⟩] .go) .go))

abbrev E46 : Env := mkE tab gl 54 false [(6, 1), (11, 1), (16, 1), (21, 1), (28, 1), (33, 1), (38, 1), (43, 1), (48, 1), (1, 2), (2, 2)]
abbrev plan46 : Plan := (.sq .go (.sq (.cut hL6 [⟨0, [(4, hA2)], [2, 0]⟩] .go) .go))

abbrev E48 : Env := mkE tab gl 19 false [(7, 1), (11, 1), (4, 2)]
abbrev plan48 : Plan := (.sq .go (.sq (.cut [10, 12, 14, 16, 18, 20, 22, 24, 26, 28, 30, 32, 34, 36, 8] [⟨0, [(8, hA2)], [0, 2]⟩] .go) .go))

abbrev E16 : Env := mkE tab gl 17 false [(12, 1), (16, 1), (7, 1), (3, 2), (4, 2), (2, 2)]
abbrev plan16 : Plan := (.sq .go (.sq .go (.sq (.sq .go (.sq (.loop [8, 16, 14, 26, 28, 24, 6, 30, 22, 20, 18, 10, 12] [(8, hA1), (6, hA4)] [4] [⟨2, [(6, hA4)], [8, 0]⟩] (.sq (.sq .go .go) (.sq (.sq (.sq .go (.cut [26, 28, 24, 6, 30] [⟨0, [(6, hA4)], [22, 20, 18, 12, 10]⟩] .go)) .go) .go))) .go)) .go)))

abbrev E18 : Env := mkE tab gl 20 false [(19, 5), (8, 1), (16, 1), (19, 1), (2, 2), (15, 2), (17, 2)]
abbrev plan18 : Plan := (.sq .go (.sq (.sq (.cut [28, 26, 24, 22, 20, 18, 16, 14, 12, 10] [⟨0, [(28, hA2)], [0]⟩] .go) (.sq .go .go)) (.sq .go .go)))

abbrev E50 : Env := mkE tab gl 16 false [(15, 1), (7, 1), (12, 1), (13, 1), (0, 2), (4, 2)]
abbrev plan50 : Plan := (.sq .go (.sq (.sq .go (.sq .go .go)) (.sq .go (.sq (.sq .go (.cut [0, 28, 26, 24] [⟨0, [(0, hA1)], [22, 20, 18, 16, 14, 12, 10, 2]⟩] .go)) .go))))

abbrev E51 : Env := mkE tab gl 31 true [(30, 1), (17, 2), (2, 2)]
abbrev plan51 : Plan := (.sq .go (.sq (.sq .go (.sq .go .go)) (.sq .go .go)))

abbrev E20 : Env := mkE tab gl 9 true [(5, 1), (7, 1), (4, 2)]
abbrev plan20 : Plan := (.sq .go .go)

abbrev E49 : Env := mkE tab gl 15 true [(8, 1), (9, 1), (6, 2)]
abbrev plan49 : Plan := (.sq .go .go)

abbrev E19 : Env := mkE tab gl 22 true [(14, 1), (8, 1), (12, 1), (20, 1), (6, 2), (5, 2), (4, 2)]
abbrev plan19 : Plan := (.sq .go (.sq .go (.sq (.sq .go (.sq (.loop [30, 32, 1, 34, 36, 28, 10, 38, 24, 26, 12, 20, 22] [(1, hA3), (10, (.lf (.sl 2 (.int .u8)))), (12, hA1)] [18, 16, 14, 8, 2] [⟨2, [(1, hA3), (10, (.lf (.sl 2 (.int .u8))))], [12, 18, 16, 14, 2]⟩] (.sq (.sq .go .go) (.sq .go .go))) .go)) (.sq (.opn [(10, 0, 5)]) .go))))

abbrev E21 : Env := mkE tab gl 18 false [(10, 1), (5, 2)]
abbrev plan21 : Plan := (.sq .go (.sq (.sq .go (.sq (.loop [8, 24, 26, 28, 30, 32, 34, 20, 22, 10, 12, 14, 16, 18] [(10, hA1)] [8] [⟨1, [(8, hA2)], [10, 0, 2]⟩, ⟨2, [], [10, 0, 2]⟩] (.sq (.sq .go .go) (.sq (.sq (.sq .go (.sq .go .go)) .go) .go))) .go)) .go))

abbrev E24 : Env := mkE tab gl 30 true [(20, 1), (26, 1), (27, 1), (5, 2), (16, 2), (18, 2), (24, 2), (4, 2)]
abbrev plan24 : Plan := (.sq .go (.sq .go (.sq (.sq .go (.sq (.sq .go (.cut [10, 48, 50, 36, 38, 32, 34, 30, 28, 26, 24, 22, 20, 18, 16, 14, 12, 40, 42, 44, 1, 46] [⟨0, [(10, hA7), (1, hA3)], [32, 34, 30, 28, 26, 24, 22, 20, 18, 16, 14, 12]⟩] (.sq .go (.sq .go (.cut [46, 1, 44, 42, 40, 12, 14, 16, 18, 20, 22, 24, 26, 28, 30, 34, 32, 38, 36, 50, 48, 10] [⟨0, [(1, hA3), (10, hA7)], [36, 38, 32, 34, 30, 28, 26, 24, 22, 20, 18, 16, 14, 12]⟩] (.sq .go (.sq .go (.cut [10] [⟨0, [(10, hA7)], [48, 50, 36, 38, 32, 34, 30, 28, 26, 24, 22, 20, 18, 16, 14, 12]⟩] .go)))))))) .go)) .go)))

abbrev E31 : Env := mkE tab gl 12 true [(11, 1), (6, 1), (4, 2)]
abbrev plan31 : Plan := (.sq .go .go)

abbrev E33 : Env := mkE tab gl 11 true [(5, 1), (4, 2)]
abbrev plan33 : Plan := (.sq .go .go)

abbrev E52 : Env := mkE tab gl 6 true [(3, 1), (2, 2)]
abbrev plan52 : Plan := (.sq .go .go)

abbrev E53 : Env := mkE tab gl 6 true [(3, 1), (2, 2)]
abbrev plan53 : Plan := (.sq .go .go)

abbrev E23 : Env := mkE tab gl 98 true [(97, 5), (35, 1), (58, 1), (63, 1), (68, 1), (73, 1), (79, 1), (84, 1), (89, 1), (94, 1), (52, 1), (97, 1), (5, 2), (32, 2), (56, 2), (59, 2), (61, 2), (64, 2), (66, 2), (69, 2), (71, 2), (75, 2), (77, 2), (80, 2), (82, 2), (85, 2), (87, 2), (90, 2), (92, 2), (95, 2), (48, 2), (54, 2)]
abbrev plan23 : Plan := (.sq .go (.sq .go (.sq .go (.sq (.sq (.cut [1, 78, 76, 74, 72, 70, 68, 66] [⟨0, [(1, hA3), (78, hA2)], [64, 62, 60, 58, 56, 54, 52, 50, 48, 46, 44, 42, 40, 38, 36, 34, 32, 30, 28, 26, 24, 22, 20, 18, 10, 16, 14, 2]⟩] .go) (.cut hL7 [⟨0, [(1, hA3), (13, hA6)], [78]⟩] (.sq (.sq .go (.sq (.sq .go (.cut hL7 [⟨0, [(1, hA3), (13, hA6)], [112, 114, 82, 80, 78]⟩] (.sq .go (.sq .go (.cut [130, 128, 126, 152, 148, 150, 146, 172, 170, 168, 192, 190, 188, 13, 110, 108, 1, 106, 104, 102, 100, 92, 94, 96, 98, 84, 86, 88, 90, 184, 186, 174, 176, 164, 166, 154, 156, 142, 144, 132, 134, 122, 124, 112, 114, 82, 80, 78, 178, 180, 182, 158, 160, 162, 136, 138, 140] [⟨0, [(13, hA6), (1, hA3)], [122, 124, 112, 114, 82, 80, 78]⟩] (.sq .go (.sq .go (.cut [140, 138, 136, 162, 160, 158, 182, 180, 178, 78, 80, 82, 114, 112, 124, 122, 134, 132, 144, 142, 156, 154, 166, 164, 176, 174, 186, 184, 90, 88, 86, 84, 98, 96, 94, 92, 100, 102, 104, 106, 1, 108, 110, 13, 188, 190, 192, 168, 170, 172, 146, 150, 148, 152] [⟨0, [(1, hA3), (13, hA6)], [132, 134, 122, 124, 112, 114, 82, 80, 78]⟩] (.sq .go (.sq .go (.cut [152, 148, 150, 146, 172, 170, 168, 192, 190, 188, 13, 110, 108, 1, 106, 104, 102, 100, 92, 94, 96, 98, 84, 86, 88, 90, 184, 186, 174, 176, 164, 166, 154, 156, 142, 144, 132, 134, 122, 124, 112, 114, 82, 80, 78, 178, 180, 182, 158, 160, 162] [⟨0, [(13, hA6), (1, hA3)], [142, 144, 132, 134, 122, 124, 112, 114, 82, 80, 78]⟩] (.sq .go (.sq .go (.cut [162, 160, 158, 182, 180, 178, 78, 80, 82, 114, 112, 124, 122, 134, 132, 144, 142, 156, 154, 166, 164, 176, 174, 186, 184, 90, 88, 86, 84, 98, 96, 94, 92, 100, 102, 104, 106, 1, 108, 110, 13, 188, 190, 192, 168, 170, 172] [⟨0, [(1, hA3), (13, hA6)], [154, 156, 142, 144, 132, 134, 122, 124, 112, 114, 82, 80, 78]⟩] (.sq .go (.sq .go (.cut [172, 170, 168, 192, 190, 188, 13, 110, 108, 1, 106, 104, 102, 100, 92, 94, 96, 98, 84, 86, 88, 90, 184, 186, 174, 176, 164, 166, 154, 156, 142, 144, 132, 134, 122, 124, 112, 114, 82, 80, 78, 178, 180, 182] [⟨0, [(13, hA6), (1, hA3)], [164, 166, 154, 156, 142, 144, 132, 134, 122, 124, 112, 114, 82, 80, 78]⟩] (.sq .go (.sq .go (.cut [182, 180, 178, 78, 80, 82, 114, 112, 124, 122, 134, 132, 144, 142, 156, 154, 166, 164, 176, 174, 186, 184, 90, 88, 86, 84, 98, 96, 94, 92, 100, 102, 104, 106, 1, 108, 110, 13, 188, 190, 192] [⟨0, [(1, hA3), (13, hA6)], [174, 176, 164, 166, 154, 156, 142, 144, 132, 134, 122, 124, 112, 114, 82, 80, 78]⟩] (.sq .go (.sq .go (.cut [192, 190, 188, 13, 110, 108, 1, 106, 104, 102, 100, 92, 94, 96, 98, 84, 86, 88, 90, 184, 186, 174, 176, 164, 166, 154, 156, 142, 144, 132, 134, 122, 124, 112, 114, 82, 80, 78] [⟨0, [(13, hA6), (1, hA3)], hL3⟩] (.sq .go (.sq (.sq (.loop [92, 94, 96, 98, 13, 84, 86, 88, 90] [(13, hA6)] hL3 [⟨3, [(13, hA6)], hL3⟩] (.sq (.sq .go .go) .go)) .go) .go))))))))))))))))))))))))) .go)) .go))) .go))))

abbrev E88 : Env := mkE tab gl 76 false [(58, 1), (63, 1), (70, 1), (75, 1), (17, 1), (56, 1), (71, 1), (72, 1), (11, 1), (5, 2), (6, 2), (3, 2), (4, 2), (2, 2)]
abbrev plan88 : Plan := (.sq .go (.sq .go (.sq (.sq .go (.sq (.loop [8, 24, 22, 148, 6, 140, 146, 144, 142, 12, 138, 126, 136, 134, 132, 130, 128, 124, 116, 122, 120, 118, 10, 114, 112, 26, 28, 30, 32, 34, 36, 38, 40, 42, 44, 46, 48, 50, 52, 54, 56, 58, 60, 62, 64, 66, 68, 70, 72, 74, 76, 78, 80, 82, 84, 86, 88, 90, 92, 94, 96, 98, 100, 102, 104, 106, 108, 110, 7, 4, 14, 16, 18, 20] [(8, hA1), (6, hA11)] [4] [⟨2, [(6, hA11)], [8, 0]⟩] (.sq (.sq .go .go) (.sq (.sq (.sq .go (.sq (.sq (.loop [10, 114, 112, 14, 16, 18, 20, 26, 28, 30, 32, 34, 36, 38, 40, 42, 44, 46, 48, 50, 52, 54, 56, 58, 60, 62, 64, 66, 68, 70, 72, 74, 76, 78, 80, 82, 84, 86, 88, 90, 92, 94, 96, 98, 100, 102, 104, 106, 108, 110, 7, 6] [(10, hA1), (6, hA11)] [20, 18, 16, 14] [⟨4, [(10, hA1), (6, hA11)], [20, 18, 16, 14]⟩] (.sq (.sq (.cut [6, 7, 110, 108, 106, 104, 102, 100, 98, 96, 94, 92, 90, 88, 86, 84, 82, 80, 78, 76, 74, 72, 70, 68, 66, 64, 62, 60, 58, 56, 54, 52, 50, 48, 46, 44, 42, 40, 38, 36, 34, 32, 30, 28, 26] [⟨0, [(6, hA11), (110, hA2)], []⟩] (.opn [(6, 0, 3)])) .go) .go)) .go) (.sq .go (.sq .go .go)))) .go) .go))) .go)) .go)))

abbrev E60 : Env := mkE tab gl 196 true [(182, 0), (195, 5), (25, 1), (62, 1), (104, 1), (115, 1), (182, 1), (95, 1), (17, 1), (22, 1), (53, 1), (57, 1), (48, 1), (37, 1), (83, 1), (105, 1), (185, 1), (92, 1), (195, 1), (8, 2), (29, 2), (9, 2), (10, 2), (12, 2), (13, 2), (75, 2), (14, 2), (11, 2), (79, 2), (101, 2), (110, 2), (112, 2), (122, 2), (124, 2), (138, 2), (141, 2), (155, 2), (158, 2), (172, 2), (175, 2), (193, 2), (99, 2), (15, 2)]
abbrev plan60 : Plan := (.sq .go (.sq .go (.sq .go (.sq (.sq .go (.sq (.loop [48, 52, 54, 56, 50, 60, 15, 58, 44, 46, 18, 38, 40, 42] [(15, hA5), (18, hA1)] [36, 34, 32, 2] [⟨2, [(15, hA5)], [18, 36, 34, 32, 2]⟩] (.sq (.sq .go .go) (.sq .go .go))) .go)) (.sq .go (.sq (.sq .go (.sq (.loop [22, 76, 74, 28, 98, 96, 122, 126, 128, 130, 132, 134, 136, 138, 140, 142, 144, 1, 146, 148, 124, 152, 15, 150, 120, 100, 102, 104, 106, 108, 110, 112, 114, 116, 118, 88, 86, 84, 82, 80, 78, 66, 64, 62, 90, 92, 94, 26, 24, 68, 70, 72] [(22, hA1), (1, hA3), (15, hA5)] [66, 64, 62] [⟨4, [(1, hA3), (15, hA5)], [22, 20, 66, 64, 62, 16]⟩] (.sq (.sq .go .go) (.sq (.sq (.sq .go (.sq .go (.sq .go (.sq (.loop [28, 98, 96, 122, 126, 128, 130, 132, 134, 136, 138, 140, 142, 144, 1, 146, 148, 124, 152, 15, 150, 120, 100, 102, 104, 106, 108, 110, 112, 114, 116, 118, 88, 86, 84, 82, 80, 78, 72, 70, 68, 90, 92, 94] [(28, hA1), (1, hA3), (15, hA5)] [88, 86, 84, 82, 80, 78, 72, 70, 68] [⟨6, [(1, hA3), (15, hA5)], [28, 26, 88, 86, 24, 84, 82, 80, 78, 72, 70, 68]⟩] (.sq (.sq .go .go) (.sq (.sq (.sq (.cut [100, 102, 104, 106, 108, 110, 112, 114, 116, 118, 1, 120] [⟨0, [(1, hA3), (120, hA2)], [94, 92, 90]⟩] .go) (.cut [122, 126, 128, 130, 132, 134, 136, 138, 140, 142, 144, 1, 146, 148, 124, 152, 15, 150] [⟨0, [(1, hA3), (15, hA5)], [120]⟩] .go)) .go) .go))) .go)))) .go) .go))) .go)) (.sq .go (.sq (.sq (.cut [1, 174, 172, 170, 168, 166, 164, 162] [⟨0, [(1, hA3), (174, hA2)], [160, 158, 156, 154, 4]⟩] .go) (.cut hL8 [⟨0, [(15, hA5), (1, hA3)], [174]⟩] (.sq (.sq .go (.sq (.sq .go (.cut hL8 [⟨0, [(15, hA5), (1, hA3)], [202, 204, 178, 176, 174]⟩] (.sq .go (.sq .go (.cut [228, 232, 234, 236, 238, 240, 242, 230, 246, 244, 297, 314, 312, 310, 308, 306, 304, 302, 300, 298, 296, 294, 292, 290, 288, 286, 287, 362, 364, 366, 368, 370, 372, 374, 376, 378, 1, 380, 382, 384, 365, 388, 386, 360, 358, 356, 354, 355, 174, 176, 178, 204, 202, 226, 224, 250, 248, 284, 282, 318, 316, 352, 350, 182, 180, 30, 186, 184, 198, 15, 200, 190, 196, 194, 192, 188, 321, 320, 322, 324, 326, 328, 330, 332, 334, 336, 338, 340, 342, 344, 346, 348, 331, 253, 252, 254, 256, 258, 260, 262, 264, 266, 268, 270, 272, 274, 276, 278, 280, 263] [⟨0, [(1, hA3), (15, hA5)], [224, 226, 202, 204, 178, 176, 174]⟩] (.sq .go (.sq .go (.cut [263, 280, 278, 276, 274, 272, 270, 268, 266, 264, 262, 260, 258, 256, 254, 252, 253, 331, 348, 346, 344, 342, 340, 338, 336, 334, 332, 330, 328, 326, 324, 322, 320, 321, 188, 192, 194, 196, 190, 200, 15, 198, 184, 186, 30, 180, 182, 350, 352, 316, 318, 282, 284, 248, 250, 224, 226, 202, 204, 178, 176, 174, 355, 354, 356, 358, 360, 386, 388, 365, 384, 382, 380, 1, 378, 376, 374, 372, 370, 368, 366, 364, 362, 287, 286, 288, 290, 292, 294, 296, 298, 300, 302, 304, 306, 308, 310, 312, 314, 297] [⟨0, [(15, hA5), (1, hA3)], [248, 250, 224, 226, 202, 204, 178, 176, 174]⟩] (.sq (.sq (.opn [(15, 1, 126)]) (.cut [15, 263, 280, 278, 1, 276, 274, 272, 270, 268, 266, 264, 262, 260] [⟨0, [(15, hA5), (1, hA3)], [258, 256, 254, 252, 248, 250, 224, 226, 202, 204, 178, 176, 174]⟩] (.sq (.opn [(15, 1, 131)]) .go))) (.sq .go (.cut [297, 314, 312, 310, 308, 306, 304, 302, 300, 298, 296, 294, 292, 290, 288, 286, 287, 362, 364, 366, 368, 370, 372, 374, 376, 378, 1, 380, 382, 384, 365, 388, 386, 360, 358, 356, 354, 355, 174, 176, 178, 204, 202, 226, 224, 250, 248, 284, 282, 318, 316, 352, 350, 182, 180, 30, 186, 184, 198, 15, 200, 190, 196, 194, 192, 188, 321, 320, 322, 324, 326, 328, 330, 332, 334, 336, 338, 340, 342, 344, 346, 348, 331] [⟨0, [(1, hA3), (15, hA5)], [282, 284, 248, 250, 224, 226, 202, 204, 178, 176, 174]⟩] (.sq (.sq (.opn [(15, 1, 143)]) (.cut [15, 297, 314, 312, 1, 310, 308, 306, 304, 302, 300, 298, 296, 294] [⟨0, [(15, hA5), (1, hA3)], [292, 290, 288, 286, 282, 284, 248, 250, 224, 226, 202, 204, 178, 176, 174]⟩] (.sq (.opn [(15, 1, 148)]) .go))) (.sq .go (.cut [331, 348, 346, 344, 342, 340, 338, 336, 334, 332, 330, 328, 326, 324, 322, 320, 321, 188, 192, 194, 196, 190, 200, 15, 198, 184, 186, 30, 180, 182, 350, 352, 316, 318, 282, 284, 248, 250, 224, 226, 202, 204, 178, 176, 174, 355, 354, 356, 358, 360, 386, 388, 365, 384, 382, 380, 1, 378, 376, 374, 372, 370, 368, 366, 364, 362] [⟨0, [(15, hA5), (1, hA3)], [316, 318, 282, 284, 248, 250, 224, 226, 202, 204, 178, 176, 174]⟩] (.sq (.sq (.opn [(15, 1, 160)]) (.cut [15, 331, 348, 346, 1, 344, 342, 340, 338, 336, 334, 332, 330, 328] [⟨0, [(15, hA5), (1, hA3)], [326, 324, 322, 320, 316, 318, 282, 284, 248, 250, 224, 226, 202, 204, 178, 176, 174]⟩] (.sq (.opn [(15, 1, 165)]) .go))) (.sq .go (.cut [362, 364, 366, 368, 370, 372, 374, 376, 378, 1, 380, 382, 384, 365, 388, 386, 360, 358, 356, 354, 355, 174, 176, 178, 204, 202, 226, 224, 250, 248, 284, 282, 318, 316, 352, 350, 182, 180, 30, 186, 184, 198, 15, 200, 190, 196, 194, 192, 188] [⟨0, [(1, hA3), (15, hA5)], hL9⟩] (.sq (.sq (.opn [(15, 1, 177)]) (.cut [362, 364, 366, 368, 370, 372, 374, 376, 378, 1, 380, 382, 384, 365, 388, 15, 386] [⟨0, [(1, hA3), (15, hA5)], [360, 358, 356, 354, 350, 352, 316, 318, 282, 284, 248, 250, 224, 226, 202, 204, 178, 176, 174]⟩] (.sq (.opn [(15, 1, 182)]) .go))) (.sq .go (.sq (.loop [188, 192, 194, 196, 190, 200, 15, 198, 184, 186, 30, 180, 182] [(15, hA5), (30, hA1)] hL9 [⟨9, [(15, hA5)], [30, 350, 352, 316, 318, 282, 284, 248, 250, 224, 226, 202, 204, 178, 176, 174]⟩] (.sq (.sq .go .go) (.sq .go .go))) .go)))))))))))))))))))) .go)) .go))) .go))))))))

abbrev E28 : Env := mkE tab gl 26 true [(25, 5), (8, 1), (15, 1), (25, 1), (9, 2), (22, 2), (6, 2)]
abbrev plan28 : Plan := (.sq .go (.sq .go (.sq (.sq .go (.sq (.loop [12, 32, 30, 35, 48, 46, 44, 1, 42, 40, 38, 36, 34, 20, 22, 24, 26, 28, 21, 11] [(12, hA1), (1, hA3), (11, hA5)] [18, 16, 14, 2] [⟨2, [(1, hA3), (11, hA5)], [12, 18, 16, 14, 2]⟩] (.sq (.sq (.opn [(11, 0, 10)]) .go) (.sq (.sq (.opn [(11, 0, 17)]) .go) .go))) .go)) .go)))

abbrev E61 : Env := mkE tab gl 33 true [(18, 1), (23, 1), (27, 1), (32, 1), (28, 1), (29, 1), (12, 1), (7, 2), (8, 2), (5, 2), (6, 2), (4, 2)]
abbrev plan61 : Plan := (.sq .go (.sq .go (.sq (.sq .go (.sq (.loop [28, 30, 32, 34, 1, 14, 38, 40, 42, 36, 44, 48, 50, 46, 52, 16, 56, 58, 60, 54, 10, 62, 24, 26, 12, 18, 20, 22] [(1, hA3), (10, hA4), (12, hA1)] [8] [⟨2, [(1, hA3), (10, hA4)], [12, 2]⟩] (.sq (.sq .go .go) (.sq (.sq (.sq .go (.sq .go (.sq .go .go))) .go) .go))) .go)) .go)))

abbrev E29 : Env := mkE tab gl 111 true [(110, 5), (41, 1), (87, 1), (66, 1), (30, 1), (25, 1), (58, 1), (75, 1), (80, 1), (106, 1), (67, 1), (110, 1), (4, 2), (15, 2), (9, 2), (8, 2), (54, 2), (10, 2), (73, 2), (76, 2), (78, 2), (82, 2), (84, 2), (96, 2), (98, 2), (107, 2), (71, 2)]
abbrev plan29 : Plan := (.sq .go (.sq .go (.sq .go (.sq .go (.sq (.sq .go (.sq (.loop [20, 52, 50, 108, 15, 110, 82, 106, 104, 102, 100, 98, 96, 94, 92, 90, 88, 86, 84, 80, 78, 76, 74, 72, 70, 68, 66, 64, 62, 60, 58, 56, 54, 40, 38, 36, 34, 32, 30, 28, 26, 24, 22, 2, 16, 1, 42, 44, 46, 48, 19, 18] [(20, hA1), (15, hA8), (16, hA1), (1, hA3), (18, hA4)] [40, 38, 36, 34, 32, 30, 28, 26, 24, 22, 2] [⟨2, [(15, hA8), (16, hA1), (1, hA3)], [20, 18, 40, 38, 36, 34, 32, 30, 28, 26, 24, 22, 8, 2]⟩] (.sq (.sq (.opn [(18, 0, 9)]) .go) (.sq (.sq (.sq (.sq .go .go) (.sq .go (.sq .go (.cut [18, 19, 108, 15, 110, 82, 106, 104, 102, 100, 98, 96, 94, 92, 90, 88, 86, 84, 80] [⟨0, [(18, hA4), (15, hA8)], [78, 76, 74, 72, 70, 68, 66, 64, 62, 60, 58, 56, 54, 48, 46, 44, 42]⟩] (.sq (.opn [(18, 0, 9)]) .go))))) .go) .go))) .go)) (.sq (.sq (.cut [1, 124, 122, 120, 118, 116, 114, 112] [⟨0, [(1, hA3), (124, hA2)], [4]⟩] .go) (.cut hL10 [⟨0, [(15, hA8), (1, hA3)], [124, 16]⟩] (.sq (.sq .go (.sq (.sq .go (.cut hL10 [⟨0, [(15, hA8), (1, hA3)], [146, 148, 128, 126, 124, 16]⟩] (.sq .go (.sq .go (.cut [166, 162, 164, 160, 209, 218, 216, 1, 214, 212, 210, 208, 206, 204, 202, 200, 196, 198, 168, 170, 156, 158, 146, 148, 128, 126, 124, 16, 201, 142, 15, 144, 132, 140, 138, 136, 134, 130, 192, 194, 174, 190, 188, 184, 186, 182, 178, 180, 176, 172] [⟨0, [(1, hA3), (15, hA8)], [156, 158, 146, 148, 128, 126, 124, 16]⟩] (.sq .go (.sq .go (.cut [172, 176, 180, 178, 182, 186, 184, 188, 190, 174, 194, 192, 130, 134, 136, 138, 140, 132, 144, 15, 142, 201, 16, 124, 126, 128, 148, 146, 158, 156, 170, 168, 198, 196, 200, 202, 204, 206, 208, 210, 212, 214, 1, 216, 218, 209] [⟨0, [(15, hA8), (1, hA3)], [168, 170, 156, 158, 146, 148, 128, 126, 124, 16]⟩] (.sq .go (.sq .go (.cut [209, 218, 216, 1, 214, 212, 210, 208, 206, 204, 202, 200, 196, 198, 168, 170, 156, 158, 146, 148, 128, 126, 124, 16, 201, 142, 15, 144, 132, 140, 138, 136, 134, 130] [⟨0, [(1, hA3), (15, hA8)], [196, 198, 168, 170, 156, 158, 146, 148, 128, 126, 124, 16]⟩] (.sq (.sq (.opn [(15, 2, 100)]) (.cut [15, 209, 218, 216, 1, 214, 212, 210, 208] [⟨0, [(15, hA8), (1, hA3)], [206, 204, 202, 200, 196, 198, 168, 170, 156, 158, 146, 148, 128, 126, 124, 16]⟩] (.sq (.opn [(15, 2, 104)]) .go))) .go)))))))))))) .go)) .go))) .go))))))

abbrev E71 : Env := mkE tab gl 12 false [(7, 1), (4, 2)]
abbrev plan71 : Plan := (.sq .go (.sq (.cut [8, 22, 20, 18, 16, 14, 12, 10] [⟨0, [(8, hA2)], [0, 2]⟩] .go) .go))

abbrev E64 : Env := mkE tab gl 17 false [(5, 1), (9, 1), (13, 1), (2, 2)]
abbrev plan64 : Plan := (.sq .go (.sq (.cut hL4 [⟨0, [(4, hA2)], [0]⟩] .go) .go))

abbrev E94 : Env := mkE tab gl 9 false [(6, 1), (2, 2)]
abbrev plan94 : Plan := (.sq .go (.sq (.sq .go (.sq .go .go)) .go))

abbrev E72 : Env := mkE tab gl 14 false [(7, 1), (4, 2)]
abbrev plan72 : Plan := (.sq .go (.sq (.cut hL5 [⟨0, [(8, hA2)], [0, 2]⟩] .go) .go))

abbrev E35 : Env := mkE tab gl 54 false [(6, 1), (11, 1), (16, 1), (21, 1), (28, 1), (33, 1), (38, 1), (43, 1), (48, 1), (1, 2), (2, 2)]
abbrev plan35 : Plan := (.sq .go (.sq (.cut hL6 [⟨0, [(4, hA2)], [2, 0]⟩] .go) .go))

abbrev E36 : Env := mkE tab gl 9 false [(1, 2), (2, 2)]
abbrev plan36 : Plan := (.sq .go (.sq (.sq .go (.sq .go .go)) .go))

abbrev E73 : Env := mkE tab gl 14 false [(2, 2)]
abbrev plan73 : Plan := (.sq .go (.sq (.sq .go (.sq .go .go)) .go))

abbrev E37 : Env := mkE tab gl 7 false [(5, 1), (2, 2)]
abbrev plan37 : Plan := (.sq .go (.sq (.sq .go (.sq .go .go)) .go))

abbrev E74 : Env := mkE tab gl 15 false [(8, 1), (10, 1), (6, 2)]
abbrev plan74 : Plan := (.sq .go (.sq (.cut hL2 [⟨0, [(12, hA2)], [0, 2, 4]⟩] .go) .go))

abbrev E38 : Env := mkE tab gl 33 false [(32, 1), (12, 1), (19, 1), (24, 1), (25, 1), (27, 1), (8, 2), (6, 2)]
abbrev plan38 : Plan := (.sq .go (.sq (.sq (.cut hL11 [⟨0, [(46, hA2)], []⟩] .go) (.sq .go .go)) (.sq .go (.sq (.sq .go (.sq .go .go)) .go))))

abbrev E41 : Env := mkE tab gl 32 false [(31, 5), (9, 1), (14, 1), (24, 1), (31, 1), (2, 2), (21, 2), (25, 2), (29, 2)]
abbrev plan41 : Plan := (.sq .go (.sq (.sq (.cut [12, 14, 16, 18, 20, 22, 24, 26, 28, 30, 32, 34, 36, 38, 40] [⟨0, [(40, hA2)], [0]⟩] .go) (.sq .go .go)) (.sq .go (.sq .go .go))))

abbrev E55 : Env := mkE tab gl 16 false [(10, 1), (15, 1), (3, 2), (0, 2), (2, 2)]
abbrev plan55 : Plan := (.sq .go (.sq .go (.sq (.sq (.loop [22, 24, 26, 20, 6, 28, 12, 14, 16, 18, 0, 8, 10] [(6, hA4), (0, hA7)] [4] [⟨2, [(6, hA4)], [0]⟩] (.sq (.sq .go .go) (.sq .go .go))) .go) .go)))

abbrev E56 : Env := mkE tab gl 29 false [(28, 5), (8, 1), (12, 1), (16, 1), (25, 1), (28, 1), (2, 2), (24, 2), (26, 2)]
abbrev plan56 : Plan := (.sq .go (.sq (.sq (.cut [46, 44, 42, 40, 38, 36, 34, 32, 30, 28, 26, 24, 22, 20, 18, 16, 14, 12, 10] [⟨0, [(46, hA2)], [0]⟩] .go) (.sq .go .go)) (.sq .go .go)))

abbrev E89 : Env := mkE tab gl 15 false [(8, 1), (10, 1), (6, 2)]
abbrev plan89 : Plan := (.sq .go (.sq (.cut hL2 [⟨0, [(12, hA2)], [0, 2, 4]⟩] .go) .go))

abbrev E93 : Env := mkE tab gl 19 false [(17, 1), (8, 1), (5, 2), (4, 2)]
abbrev plan93 : Plan := (.sq .go (.sq (.sq .go (.sq (.loop hL1 [(16, hA1)] [12, 8] [⟨1, [(8, hA1)], [16, 14, 12, 0, 2]⟩, ⟨2, [], [16, 14, 12, 0, 2]⟩] (.sq .go (.sq .go (.sq (.sq (.sq .go (.sq .go (.sq .go .go))) .go) .go)))) .go)) .go))

abbrev E70 : Env := mkE tab gl 9 false [(5, 1), (6, 1), (4, 2)]
abbrev plan70 : Plan := (.sq .go .go)

abbrev E98 : Env := mkE tab gl 9 false [(5, 1), (2, 2)]
abbrev plan98 : Plan := (.sq .go (.sq (.cut [4, 16, 14, 12, 10, 8, 6] [⟨0, [(4, hA2)], [0]⟩] .go) .go))

abbrev E99 : Env := mkE tab gl 21 false [(11, 1), (2, 2), (5, 2)]
abbrev plan99 : Plan := (.sq .go (.sq (.sq .go (.sq (.loop [8, 26, 28, 30, 32, 34, 36, 38, 40, 22, 24, 10, 12, 14, 16, 18, 20] [(10, hA1)] [8, 0] [⟨1, [(8, hA2)], [10, 4, 0, 2]⟩, ⟨2, [], [10, 4, 0, 2]⟩] (.sq (.sq .go .go) (.sq (.sq (.sq .go (.sq .go .go)) .go) .go))) .go)) .go))

abbrev E85 : Env := mkE tab gl 182 false [(16, 1), (36, 1), (27, 1), (50, 1), (82, 1), (88, 1), (93, 1), (71, 1), (114, 1), (103, 1), (130, 1), (168, 1), (150, 1), (1, 2), (3, 2), (4, 2), (77, 2), (5, 2), (7, 2), (8, 2), (157, 2), (162, 2), (9, 2)]
abbrev plan85 : Plan := (.sq .go (.sq (.sq (.cut [42, 40, 38, 36, 34, 32, 30, 28, 26, 24] [⟨0, [(42, hA2)], [0]⟩] .go) (.sq .go .go)) (.sq (.sq .go (.sq (.loop [6, 56, 54, 58, 60, 62, 64, 66, 68, 70, 72, 74, 76, 78, 80, 82, 84, 86, 88, 42, 4, 44, 46, 48, 50, 52] [(6, hA1)] [42, 4] [⟨1, [(4, hA1)], [6, 42]⟩, ⟨2, [], [6, 42]⟩] (.sq (.sq .go .go) (.sq (.sq (.sq (.cut [58, 60, 62, 64, 66, 68, 70, 72, 74, 76, 78, 80, 82, 84, 86, 88] [⟨0, [(88, hA2)], [52, 50, 48, 46, 44]⟩] .go) (.sq .go .go)) .go) .go))) .go)) (.sq (.sq .go (.sq (.loop [8, 102, 100, 130, 128, 126, 124, 122, 120, 118, 116, 114, 112, 110, 108, 106, 104, 4, 90, 92, 94, 96, 98] [(8, hA1)] [] [⟨1, [(4, hA1)], [8]⟩, ⟨4, [], [8]⟩] (.sq (.sq .go .go) (.sq (.sq (.sq .go (.sq .go .go)) .go) .go))) .go)) (.sq (.sq .go (.sq (.loop [4, 13, 146, 148, 150, 152, 154, 12, 156, 158, 160, 162, 164, 166, 168, 170, 172, 174, 176, 178, 180, 182, 184, 186, 188, 190, 192, 194, 142, 144, 10, 132, 134, 136, 138, 140] [(10, hA1)] [] [⟨1, [(4, hA1)], [10]⟩, ⟨6, [], [10]⟩] (.sq (.sq .go .go) (.sq (.sq (.sq .go (.sq (.cut [194, 192, 190, 188, 186, 184, 182, 180, 178, 176, 174, 172, 170, 168, 166, 164, 162, 160, 158, 156] [⟨0, [(194, hA2)], [12, 154, 152, 150, 148, 146, 140, 138, 136, 134, 132]⟩] .go) (.sq .go .go))) .go) .go))) .go)) (.sq (.sq .go (.sq (.loop [14, 208, 206, 210, 212, 214, 216, 218, 220, 222, 224, 226, 228, 230, 232, 234, 236, 238, 240, 242, 244, 246, 248, 4, 196, 198, 200, 202, 204] [(14, hA1)] [] [⟨1, [(4, hA1)], [14]⟩, ⟨8, [], [14]⟩] (.sq (.sq .go .go) (.sq (.sq (.sq (.cut [210, 212, 214, 216, 218, 220, 222, 224, 226, 228, 230, 232, 234, 236, 238, 240, 242, 244, 246, 248] [⟨0, [(248, hA2)], [204, 202, 200, 198, 196]⟩] .go) (.sq .go .go)) .go) .go))) .go)) (.sq (.sq .go (.sq (.loop [16, 262, 260, 288, 286, 284, 282, 280, 278, 276, 274, 272, 270, 268, 266, 264, 4, 250, 252, 254, 256, 258] [(16, hA1)] [] [⟨1, [(4, hA1)], [16]⟩, ⟨10, [], [16]⟩] (.sq (.sq .go .go) (.sq (.sq (.sq .go (.sq .go .go)) .go) .go))) .go)) (.sq (.sq .go (.sq (.loop [18, 302, 300, 362, 360, 358, 356, 354, 352, 350, 348, 346, 344, 342, 340, 338, 336, 334, 332, 330, 328, 326, 22, 20, 324, 322, 320, 318, 316, 314, 312, 310, 308, 306, 304, 23, 21, 4, 290, 292, 294, 296, 298] [(18, hA1)] [] [⟨1, [(4, hA1)], [18, 2]⟩, ⟨12, [], [18, 2]⟩] (.sq (.sq .go .go) (.sq (.sq (.sq .go (.sq (.cut [362, 360, 358, 356, 354, 352, 350, 348, 346, 344, 342, 340, 338, 336, 334, 332, 330, 328, 326] [⟨0, [(362, hA2)], [22, 20, 324, 322, 320, 318, 316, 314, 312, 310, 308, 306, 304, 298, 296, 294, 292, 290]⟩] .go) (.sq .go .go))) .go) .go))) .go)) .go))))))))

abbrev E100 : Env := mkE tab gl 25 false [(14, 1), (9, 1), (4, 2), (3, 2)]
abbrev plan100 : Plan := (.sq .go (.sq (.sq .go (.sq (.loop [6, 20, 18, 8, 30, 28, 48, 46, 44, 42, 40, 38, 36, 34, 32, 4, 22, 24, 26, 10, 12, 14, 16] [(6, hA1)] [4] [⟨1, [(4, hA2)], [6, 0]⟩, ⟨2, [], [6, 0]⟩] (.sq (.sq .go .go) (.sq (.sq (.sq .go (.sq (.loop [8, 30, 28, 48, 46, 44, 42, 40, 38, 36, 34, 32, 4, 22, 24, 26] [(8, hA1)] [16, 14, 12, 10] [⟨1, [(4, hA2)], [8, 16, 14, 12, 10]⟩, ⟨4, [], [8, 16, 14, 12, 10]⟩] (.sq (.sq .go .go) (.sq (.sq (.sq .go (.sq .go .go)) .go) .go))) .go)) .go) .go))) .go)) .go))

abbrev E86 : Env := mkE tab gl 79 false [(71, 1), (10, 1), (27, 1), (49, 1), (55, 1), (38, 1), (76, 1), (1, 2), (44, 2), (3, 2), (4, 2), (2, 2)]
abbrev plan86 : Plan := (.sq .go (.sq (.sq (.cut [12, 14, 16, 18, 20, 22, 24, 26, 28, 30, 32, 34, 36, 38, 40, 42, 44, 46, 48, 50, 52, 54, 56, 58, 60, 62, 64] [⟨0, [(64, hA2)], [0]⟩] .go) (.sq .go .go)) (.sq .go (.sq (.sq .go (.sq (.loop [4, 8, 78, 76, 150, 6, 142, 148, 146, 144, 140, 138, 136, 134, 132, 130, 128, 126, 124, 122, 120, 118, 116, 114, 112, 110, 108, 106, 104, 102, 100, 98, 96, 94, 92, 90, 88, 86, 84, 82, 80, 64, 11, 10, 66, 68, 70, 72, 74] [(8, hA1), (6, hA4)] [64, 4] [⟨1, [(4, hA2)], [8, 64, 2]⟩, ⟨2, [(6, hA4)], [8, 64, 2]⟩] (.sq (.sq .go .go) (.sq (.sq (.sq .go (.sq (.sq (.cut [140, 138, 136, 134, 132, 130, 128, 126, 124, 122, 120, 118, 116, 114, 112, 110, 108, 106, 104, 102, 100, 98, 96, 94, 92, 90] [⟨0, [(140, hA2)], [88, 86, 84, 82, 80, 74, 72, 70, 68, 66]⟩] .go) (.sq .go .go)) .go)) .go) .go))) .go)) (.sq (.opn [(6, 0, 3)]) .go)))))

abbrev E96 : Env := mkE tab gl 23 false [(10, 1), (4, 2), (5, 2)]
abbrev plan96 : Plan := (.sq .go (.sq (.sq (.cut [28, 26, 24, 22, 20, 18, 16, 14] [⟨0, [(28, hA2)], []⟩] .go) (.sq .go .go)) .go))

abbrev E101 : Env := mkE tab gl 30 false [(29, 1), (26, 1), (14, 1), (2, 2), (4, 2), (5, 2)]
abbrev plan101 : Plan := (.sq .go (.sq (.sq .go (.sq .go .go)) (.sq (.sq .go (.sq (.loop [48, 50, 52, 54, 56, 58, 8, 32, 34, 36, 38, 40, 42, 44, 46, 28, 30, 10, 18, 20, 22, 24, 26] [(10, hA1)] [16, 14, 12, 8, 0] [⟨1, [(8, hA2)], [10, 16, 14, 12, 4, 0, 2]⟩, ⟨2, [], [10, 16, 14, 12, 4, 0, 2]⟩] (.sq (.sq .go .go) (.sq (.sq (.sq .go (.sq .go .go)) .go) .go))) .go)) .go)))

abbrev E104 : Env := mkE tab gl 13 false [(8, 1), (2, 2), (4, 2)]
abbrev plan104 : Plan := (.sq .go (.sq (.cut [8, 24, 22, 20, 18, 16, 14, 12, 10] [⟨0, [(8, hA2)], [4, 0, 2]⟩] .go) .go))

abbrev E111 : Env := mkE tab gl 46 false [(33, 1), (45, 1), (26, 1), (38, 1), (15, 1), (3, 2), (21, 2), (6, 2), (8, 2)]
abbrev plan111 : Plan := (.sq .go (.sq (.sq .go (.sq (.loop [66, 64, 14, 12, 90, 88, 18, 19, 0, 34, 36, 38, 40, 42, 44, 46, 48, 50, 52, 54, 56, 58, 60, 62, 68, 70, 72, 74, 76, 78, 80, 82, 84, 86, 30, 32, 16, 20, 22, 24, 26, 28] [(16, hA1)] [14, 12, 0] [⟨1, [(14, hA2), (12, hA1)], [16, 6, 0, 2, 4]⟩, ⟨2, [], [16, 6, 0, 2, 4]⟩] (.sq (.sq .go .go) (.sq (.sq (.sq .go (.sq (.sq (.cut [62, 60, 58, 56, 54, 52, 50, 48, 46, 44] [⟨0, [(62, hA2)], [42, 40, 38, 36, 34, 28, 26, 24, 22, 20]⟩] .go) (.sq .go .go)) (.sq (.cut [86, 84, 82, 80, 78, 76, 74, 72, 70, 68] [⟨0, [(86, hA2)], [62]⟩] .go) (.sq .go .go)))) .go) .go))) .go)) .go))

abbrev E110 : Env := mkE tab gl 39 false [(29, 1), (38, 1), (16, 1), (28, 1), (14, 1), (2, 2), (7, 2), (8, 2), (5, 2), (6, 2), (4, 2)]
abbrev plan110 : Plan := (.sq .go (.sq .go (.sq (.sq .go (.sq (.loop [0, 34, 36, 38, 40, 42, 44, 46, 48, 50, 32, 52, 54, 14, 16, 56, 60, 62, 64, 66, 68, 70, 72, 58, 10, 74, 28, 30, 12, 18, 20, 22, 24, 26] [(10, hA4), (12, hA1)] [8, 0] [⟨2, [(10, hA4)], [12, 4, 0, 2]⟩] (.sq (.sq .go .go) (.sq (.sq (.sq .go (.sq .go (.cut [74, 10, 58, 72, 70, 68, 66, 64, 62, 60] [⟨0, [(10, hA4)], [56, 16, 14, 54, 52, 32, 50, 48, 46, 44, 42, 40, 38, 36, 34, 26, 24, 22, 20, 18]⟩] .go))) .go) .go))) .go)) .go)))

abbrev E63 : Env := mkE tab gl 15 false [(8, 1), (10, 1), (6, 2)]
abbrev plan63 : Plan := (.sq .go (.sq (.cut hL2 [⟨0, [(12, hA2)], [0, 2, 4]⟩] .go) .go))

abbrev E92 : Env := mkE tab gl 6 false [(3, 1), (2, 2)]
abbrev plan92 : Plan := (.sq .go .go)

abbrev E103 : Env := mkE tab gl 19 false [(17, 1), (8, 1), (5, 2), (4, 2)]
abbrev plan103 : Plan := (.sq .go (.sq (.sq .go (.sq (.loop hL1 [(16, hA1)] [12, 8] [⟨1, [(8, hA1)], [16, 14, 12, 0, 2]⟩, ⟨2, [], [16, 14, 12, 0, 2]⟩] (.sq .go (.sq .go (.sq (.sq (.sq .go (.sq .go (.sq .go .go))) .go) .go)))) .go)) .go))

abbrev E91 : Env := mkE tab gl 9 false [(5, 1), (6, 1), (4, 2)]
abbrev plan91 : Plan := (.sq .go .go)

abbrev E66 : Env := mkE tab gl 12 false [(7, 1), (1, 2), (2, 2)]
abbrev plan66 : Plan := (.sq .go (.sq (.cut [4, 22, 20, 18, 16, 14, 12, 10, 8, 6] [⟨0, [(4, hA2)], [2, 0]⟩] .go) .go))

abbrev E67 : Env := mkE tab gl 7 false [(1, 2), (2, 2)]
abbrev plan67 : Plan := (.sq .go .go)

abbrev E69 : Env := mkE tab gl 15 false [(8, 1), (2, 2), (3, 2)]
abbrev plan69 : Plan := (.sq .go (.sq (.cut [6, 28, 26, 24, 22, 20, 18, 16, 14, 12, 10, 8] [⟨0, [(6, hA2)], [4, 0, 2]⟩] .go) .go))

abbrev E90 : Env := mkE tab gl 19 false [(17, 1), (8, 1), (5, 2), (4, 2)]
abbrev plan90 : Plan := (.sq .go (.sq (.sq .go (.sq (.loop hL1 [(16, hA1)] [12, 8] [⟨1, [(8, hA1)], [16, 14, 12, 0, 2]⟩, ⟨2, [], [16, 14, 12, 0, 2]⟩] (.sq .go (.sq .go (.sq (.sq (.sq .go (.sq .go (.sq .go .go))) .go) .go)))) .go)) .go))

abbrev E65 : Env := mkE tab gl 9 false [(5, 1), (6, 1), (4, 2)]
abbrev plan65 : Plan := (.sq .go .go)

abbrev E90v : Env := mkE tab gl 19 false [(17, 1), (8, 1), (5, 2), (4, 2)]
abbrev plan90v : Plan := (.sq .go (.sq (.sq .go (.sq (.loop hL1 [(16, hA1)] [12, 8] [⟨1, [(8, hA1)], [16, 14, 12, 0, 2]⟩, ⟨2, [], [16, 14, 12, 0, 2]⟩] (.sq .go (.sq .go (.sq (.sq (.sq .go (.sq .go (.sq .go .go))) .go) .go)))) .go)) .go))

abbrev E65w1 : Env := mkE tab gl 9 false [(5, 1), (6, 1), (4, 2)]
abbrev plan65w1 : Plan := (.sq .go .go)

abbrev E90x : Env := mkE tab gl 19 false [(17, 1), (8, 1), (5, 2), (4, 2)]
abbrev plan90x : Plan := (.sq .go (.sq (.sq .go (.sq (.loop hL1 [(16, hA1)] [12, 8] [⟨1, [(8, hA1)], [16, 14, 12, 0, 2]⟩, ⟨2, [], [16, 14, 12, 0, 2]⟩] (.sq .go (.sq .go (.sq (.sq (.sq .go (.sq .go (.sq .go .go))) .go) .go)))) .go)) .go))

abbrev E65w2 : Env := mkE tab gl 9 false [(5, 1), (6, 1), (4, 2)]
abbrev plan65w2 : Plan := (.sq .go .go)

abbrev E68 : Env := mkE tab gl 24 false [(11, 1), (6, 1), (3, 2)]
abbrev plan68 : Plan := (.sq .go (.sq (.sq .go (.sq (.loop [12, 46, 18, 20, 22, 24, 26, 28, 30, 32, 34, 36, 38, 40, 42, 44, 6, 16, 8, 4, 14] [(12, hA1)] [8, 4] [⟨1, [(4, hA2)], [12, 10, 8, 0]⟩, ⟨2, [], [12, 10, 8, 0]⟩] (.sq .go (.sq .go (.sq (.sq (.sq .go (.sq (.cut [18, 20, 22, 24, 26, 28, 30, 32, 34, 36, 38, 40, 42, 44] [⟨0, [(44, hA2)], [6, 16, 14]⟩] .go) (.sq .go .go))) .go) .go)))) .go)) .go))

abbrev E34 : Env := mkE tab gl 84 false [(49, 101), (83, 102), (9, 1), (20, 1), (26, 1), (36, 1), (46, 1), (63, 1), (54, 1), (1, 2), (3, 2), (15, 2), (41, 2), (4, 2), (58, 2)]
abbrev plan34 : Plan := (.sq .go (.sq (.cut [6, 28, 26, 24, 22, 20, 18, 16, 14, 12] [⟨0, [(6, hA2)], [0]⟩] .go) (.sq (.sq (.sq (.cut [30, 80, 78, 76, 74, 72, 70, 68, 66, 64, 62, 60, 58, 56, 54, 52, 50, 48, 46, 44, 42, 40, 38, 36, 34, 32] [⟨0, [(30, hA2)], [6]⟩] .go) (.sq .go (.sq (.cut [82, 100, 98, 96, 94, 92, 90, 88, 86, 84] [⟨0, [(82, hA2)], [30]⟩] .go) (.sq .go .go)))) .go) (.sq (.sq .go (.sq (.loop [4, 11, 82, 102, 112, 114, 116, 10, 8, 156, 154, 152, 150, 148, 146, 144, 142, 140, 138, 136, 134, 132, 130, 128, 126, 124, 122, 120, 118, 158, 108, 110] [(108, hA1)] [102, 82, 4] [⟨1, [(4, hA1)], [108, 106, 104, 102, 82]⟩, ⟨3, [], [108, 106, 104, 102, 82]⟩] (.sq .go (.sq .go (.sq (.sq (.sq .go (.sq (.cut [118, 120, 122, 124, 126, 128, 130, 132, 134, 136, 138, 140, 142, 144, 146, 148, 150, 152, 154, 156] [⟨0, [(156, hA2)], [8, 10, 116, 114, 112, 110]⟩] .go) (.sq .go .go))) .go) .go)))) .go)) (.sq (.sq (.opk [(2, 0, 0)]) (.sq .go .go)) .go)))))

abbrev E75 : Env := mkE tab gl 26 false [(7, 1), (10, 1), (14, 1), (18, 1), (22, 1), (3, 2), (6, 2)]
abbrev plan75 : Plan := (.sq .go (.sq (.cut [14, 7, 16, 18, 20, 22, 24, 26, 28, 30, 32, 34, 36, 38, 40, 42, 44, 46, 48, 50, 12] [⟨0, [(12, hA2)], [6, 0, 2, 4]⟩] .go) .go))

abbrev E76 : Env := mkE tab gl 26 false [(19, 1), (11, 1), (2, 2), (14, 2), (23, 2), (25, 2)]
abbrev plan76 : Plan := (.sq .go (.sq (.sq .go (.sq (.loop [10, 46, 9, 44, 42, 40, 38, 26, 28, 14, 15, 30, 32, 34, 36, 48, 22, 24] [(9, hA9), (22, hA1)] [16, 10, 4, 0] [⟨1, [(10, hA2), (9, hA9)], [22, 20, 18, 16, 4, 0, 2]⟩, ⟨2, [(9, hA9)], [22, 20, 18, 16, 4, 0, 2]⟩] (.sq .go (.sq .go (.sq (.sq (.sq .go (.sq .go (.sq .go .go))) .go) .go)))) .go)) .go))

abbrev E77 : Env := mkE tab gl 18 false [(17, 1), (11, 1), (2, 2), (4, 2)]
abbrev plan77 : Plan := (.sq .go (.sq (.sq .go (.sq .go .go)) .go))

abbrev E39 : Env := mkE tab gl 22 false [(14, 1), (15, 1), (13, 1), (19, 1), (20, 1), (3, 2), (17, 2), (8, 2), (6, 2)]
abbrev plan39 : Plan := (.sq .go (.sq (.sq .go (.sq .go .go)) (.sq .go .go)))

abbrev E25 : Env := mkE tab gl 30 false [(20, 1), (29, 1), (23, 1), (16, 1), (4, 2), (6, 2), (7, 2), (11, 2), (9, 2), (8, 2)]
abbrev plan25 : Plan := (.sq .go (.sq .go (.sq (.sq .go (.sq (.loop [32, 56, 54, 18, 40, 52, 50, 48, 46, 44, 42, 22, 38, 36, 34] [(32, hA1), (18, hA14)] [26, 24, 16, 12, 8, 0, 4, 6] [⟨2, [(18, hA14)], [32, 30, 28, 26, 24, 14, 12, 8, 0, 2, 4, 6]⟩] (.sq .go (.sq .go (.sq (.sq .go .go) .go)))) .go)) .go)))

abbrev E27 : Env := mkE tab gl 31 false [(19, 1), (30, 1), (17, 1), (4, 2), (5, 2), (7, 2), (8, 2), (9, 2), (6, 2)]
abbrev plan27 : Plan := (.sq .go (.sq .go (.sq .go (.sq (.sq .go (.sq (.loop [18, 36, 34, 58, 16, 38, 56, 54, 52, 50, 48, 46, 44, 42, 40, 26, 28, 30, 32] [(18, hA1), (16, hA14)] [24, 22, 20, 12, 8, 2, 4] [⟨2, [(16, hA14)], [18, 14, 24, 22, 20, 10, 8, 0, 2, 4]⟩] (.sq (.sq .go .go) (.sq .go .go))) .go)) .go))))

abbrev E10 : Env := mkE tab gl 129 false [(128, 5), (112, 1), (22, 1), (39, 1), (60, 1), (57, 1), (67, 1), (78, 1), (79, 1), (90, 1), (91, 1), (105, 1), (104, 1), (110, 1), (113, 1), (114, 1), (125, 1), (126, 1), (128, 1), (2, 2), (3, 2), (18, 2), (27, 2), (28, 2), (32, 2), (33, 2), (46, 2), (6, 2), (8, 2), (9, 2), (10, 2), (11, 2), (12, 2), (13, 2), (71, 2), (76, 2), (81, 2), (88, 2), (14, 2), (101, 2), (108, 2), (17, 2), (118, 2), (123, 2)]
abbrev plan10 : Plan := (.sq .go (.sq (.sq (.sq (.cut [36, 52, 50, 48, 46, 44, 42, 40, 38] [⟨0, [(36, hA2)], [0, 2]⟩] .go) (.sq .go (.sq .go (.sq .go (.sq (.cut [66, 90, 88, 86, 84, 82, 80, 78, 76, 74, 72, 70, 68] [⟨0, [(66, hA2)], [56, 62, 60, 58, 36]⟩] .go) (.sq .go .go)))))) .go) (.sq .go (.sq .go (.sq .go (.sq .go (.sq (.sq (.loop [160, 158, 156, 154, 152, 150, 148, 146, 184, 182, 180, 178, 176, 174, 172, 170, 28, 31, 66, 94, 96, 98, 100, 106, 108, 18, 110, 112, 20, 116, 118, 120, 122, 124, 126, 114, 128, 130, 22, 24, 132, 134, 136, 138, 26, 140, 144, 142, 164, 166, 168, 162, 186, 188, 190, 192, 194, 196, 198, 200, 202, 30, 204, 206, 210, 212, 214, 208, 216, 218, 32, 34, 220, 15, 248, 246, 244, 242, 240, 236, 238, 224, 232, 234, 230, 33, 228, 226, 222, 250, 252, 254, 16, 102, 104] [(15, hA16), (16, hA7)] [100, 98, 96, 94, 66, 10] [⟨3, [(15, hA16)], [16, 100, 98, 12, 96, 94, 66, 6, 4]⟩] (.sq (.sq .go .go) (.sq (.sq .go (.sq .go (.sq .go (.sq .go (.sq (.sq .go (.sq (.sq .go (.sq (.sq .go .go) (.sq .go (.sq (.sq .go .go) .go)))) .go)) (.sq .go (.sq .go (.sq .go (.sq (.sq .go (.sq .go (.cut [222, 226, 228, 33, 230, 234, 232, 224, 238, 236, 240, 242, 244, 246, 248, 15] [⟨0, [(15, hA16)], [220, 34, 32, 218, 216, 208, 214, 212, 210, 206, 204, 30, 202, 200, 198, 196, 194, 192, 190, 188, 186, 162, 168, 166, 164, 142, 144, 140, 26, 138, 136, 134, 132, 24, 22, 130, 128, 114, 126, 124, 122, 120, 118, 116, 20, 112, 110, 18, 108, 106, 104, 102]⟩] .go))) .go))))))))) .go))) .go) .go)))))))

abbrev E42 : Env := mkE tab gl 7 false [(6, 2)]
abbrev plan42 : Plan := (.sq .go .go)

abbrev E11 : Env := mkE tab gl 73 false [(3, 1), (9, 1), (11, 1), (16, 1), (21, 1), (27, 1), (35, 1), (45, 1), (53, 1), (63, 1), (7, 2), (2, 2), (0, 2)]
abbrev plan11 : Plan := (.sq .go (.sq .go (.sq (.cut [18, 20, 22, 24, 26, 28, 30, 32, 34, 36, 38, 40, 42, 44, 46, 48, 50, 52, 54, 56, 58, 60, 62, 64, 66, 68, 70, 72, 74, 76, 78, 80, 82, 84, 86, 88, 90, 92, 94, 96, 98, 100, 102, 104, 106, 108, 110, 112, 114, 116, 118, 120, 122, 124, 126, 128, 130, 132, 134, 136, 138, 140, 142, 144, 0] [⟨0, [(0, hA2)], [4, 2, 16, 14, 6, 12, 10, 8]⟩] .go) .go)))

abbrev E107 : Env := mkE tab gl 48 false [(34, 1), (39, 1), (43, 1), (33, 1), (11, 1), (19, 1), (25, 1), (40, 1), (44, 1), (45, 1), (5, 2), (4, 2), (6, 2)]
abbrev plan107 : Plan := (.sq .go (.sq .go (.sq (.sq (.loop [10, 40, 38, 14, 16, 18, 20, 22, 24, 26, 28, 30, 32, 34, 36] [(10, hA1)] [8] [⟨2, [(10, hA1)], []⟩] (.sq (.sq (.cut [36, 34, 32, 30, 28, 26, 24, 22, 20, 18, 16, 14] [⟨0, [(36, hA2)], []⟩] .go) .go) .go)) .go) (.sq (.sq (.cut [64, 62, 60, 58, 56, 54, 52, 50, 48, 46, 44, 42] [⟨0, [(64, hA2)], []⟩] .go) (.sq .go .go)) (.sq .go (.sq .go (.sq .go .go)))))))

abbrev E108 : Env := mkE tab gl 22 false [(21, 1), (11, 1), (2, 2), (4, 2), (5, 2)]
abbrev plan108 : Plan := (.sq .go (.sq (.sq .go (.sq (.loop [8, 42, 26, 28, 30, 32, 34, 36, 38, 40, 22, 24, 10, 12, 14, 16, 18, 20] [(10, hA1)] [8, 0] [⟨1, [(8, hA1)], [10, 4, 0, 2]⟩, ⟨2, [], [10, 4, 0, 2]⟩] (.sq (.sq .go .go) (.sq (.sq (.sq .go (.sq .go .go)) .go) .go))) .go)) .go))

abbrev E105 : Env := mkE tab gl 103 false [(102, 1), (20, 1), (96, 1), (47, 1), (40, 1), (2, 2), (5, 2), (6, 2), (53, 2), (10, 2), (11, 2), (80, 2), (100, 2), (8, 2), (7, 2), (4, 2)]
abbrev plan105 : Plan := (.sq .go (.sq .go (.sq (.sq .go (.sq (.loop [0, 24, 26, 28, 30, 44, 46, 48, 50, 52, 54, 56, 58, 60, 62, 64, 66, 68, 70, 40, 42, 12, 32, 34, 36, 38, 11, 10] [(12, hA1), (10, hA4)] [30, 28, 26, 24, 8, 0] [⟨2, [(10, hA4)], [12, 30, 28, 26, 24, 0, 2]⟩] (.sq (.sq (.opn [(10, 0, 5)]) .go) (.sq (.sq (.sq (.opn [(10, 0, 5)]) (.sq .go (.cut [10, 11, 70, 68, 66] [⟨0, [(10, hA4)], [64, 62, 60, 58, 56, 54, 52, 50, 48, 46, 44, 38, 36, 34, 32]⟩] (.sq (.opn [(10, 0, 5)]) .go)))) .go) .go))) .go)) (.sq (.sq .go (.sq (.loop [14, 82, 80, 19, 98, 100, 102, 104, 106, 108, 110, 112, 114, 116, 118, 120, 122, 124, 126, 128, 130, 132, 134, 136, 138, 140, 142, 144, 146, 148, 150, 152, 154, 156, 158, 160, 162, 18, 20, 22, 164, 166, 168, 170, 172, 174, 176, 178, 180, 182, 184, 186, 188, 190, 192, 194, 196, 198, 200, 202, 94, 96, 16, 84, 86, 88, 90, 92, 72, 74, 76, 78, 11, 10] [(14, hA1), (10, hA4)] [] [⟨4, [(10, hA4)], [14, 4]⟩] (.sq (.sq (.opn [(10, 0, 5)]) .go) (.sq (.sq (.sq .go (.sq (.loop [19, 72, 74, 76, 78, 98, 100, 102, 104, 106, 108, 110, 112, 114, 116, 118, 120, 122, 124, 126, 128, 130, 132, 134, 136, 138, 140, 142, 144, 146, 148, 150, 152, 154, 156, 158, 160, 162, 18, 20, 22, 164, 166, 168, 170, 172, 174, 176, 178, 180, 182, 184, 186, 188, 190, 192, 194, 196, 198, 200, 202, 11, 10, 94, 96, 16, 84, 86, 88, 90, 92] [(10, hA4), (16, hA1)] [78, 76, 74, 72] [⟨6, [(10, hA4)], [16, 78, 76, 74, 72]⟩] (.sq (.sq .go .go) (.sq (.sq (.sq .go (.sq .go (.sq (.sq (.opn [(10, 0, 5)]) (.cut [10, 11, 162, 160, 158, 156, 154, 152, 150, 148, 146, 144, 142, 140, 138, 136, 134] [⟨0, [(10, hA4)], [132, 130, 128, 126, 124, 122, 120, 118, 116, 114, 112, 110, 108, 106, 104, 102, 100, 98, 92, 90, 88, 86, 84]⟩] (.sq (.opn [(10, 0, 5)]) .go))) (.sq (.opn [(10, 0, 5)]) (.cut [10, 11, 202, 200, 198, 196, 194, 192, 190, 188, 186, 184, 182, 180, 178, 176, 174] [⟨0, [(10, hA4)], [172, 170, 168, 166, 164, 22, 20, 18]⟩] (.sq (.opn [(10, 0, 5)]) .go)))))) .go) .go))) .go)) .go) .go))) .go)) .go))))

abbrev E109 : Env := mkE tab gl 27 false [(26, 1), (23, 1), (24, 1), (13, 1), (3, 2), (6, 2), (7, 2)]
abbrev plan109 : Plan := (.sq .go (.sq (.sq .go (.sq (.loop [46, 48, 50, 52, 12, 30, 32, 34, 36, 38, 40, 42, 44, 26, 28, 14, 16, 18, 20, 22, 24] [(14, hA1)] [12, 0] [⟨1, [(12, hA1)], [14, 6, 0, 2, 4]⟩, ⟨2, [], [14, 6, 0, 2, 4]⟩] (.sq (.sq .go .go) (.sq (.sq (.sq .go (.sq .go .go)) .go) .go))) .go)) .go))

abbrev E106 : Env := mkE tab gl 71 false [(63, 1), (70, 1), (19, 1), (32, 1), (50, 1), (30, 1), (3, 2), (8, 2), (9, 2), (11, 2), (12, 2), (7, 2), (10, 2), (6, 2)]
abbrev plan106 : Plan := (.sq .go (.sq .go (.sq .go (.sq (.sq (.cut [44, 42, 40, 38, 36, 34] [⟨0, [(44, hA2)], [32, 30, 28, 26, 0]⟩] .go) (.sq .go .go)) (.sq .go (.sq (.sq .go (.sq (.loop [20, 62, 60, 128, 130, 132, 134, 136, 126, 14, 138, 124, 122, 120, 118, 116, 114, 112, 110, 108, 106, 104, 102, 100, 98, 96, 94, 92, 90, 88, 86, 84, 24, 22, 82, 80, 64, 78, 76, 74, 72, 70, 68, 66, 50, 48, 46, 44, 52, 54, 56, 58, 19, 18] [(20, hA1), (14, hA4), (18, hA4)] [50, 48, 46, 44, 12] [⟨2, [(14, hA4)], [20, 18, 50, 48, 46, 44, 16, 6, 2, 4]⟩] (.sq (.sq (.opn [(18, 0, 9)]) .go) (.sq (.sq (.sq (.opn [(18, 0, 9)]) (.sq (.cut [18, 19, 124, 122, 120, 118, 116, 114, 112, 110, 108, 106, 104, 102, 100, 98, 96, 94, 92, 90, 88, 86, 84] [⟨0, [(18, hA4), (124, hA2)], [24, 22, 82, 80, 64, 78, 76, 74, 72, 70, 68, 66, 58, 56, 54, 52]⟩] (.opn [(18, 0, 9)])) (.cut [128, 130, 132, 134, 136, 126, 14, 138, 19, 18] [⟨0, [(14, hA4), (18, hA4)], [124]⟩] (.sq (.opn [(18, 0, 9)]) .go)))) .go) .go))) .go)) .go))))))

abbrev E102 : Env := mkE tab gl 79 false [(71, 1), (78, 1), (17, 1), (23, 1), (29, 1), (31, 1), (58, 1), (50, 1), (37, 1), (3, 2), (7, 2), (8, 2), (11, 2), (9, 2), (12, 2), (10, 2), (6, 2)]
abbrev plan102 : Plan := (.sq .go (.sq (.sq (.cut [26, 28, 30, 32, 34, 36, 38, 40, 42, 44, 46, 48, 50, 52, 54] [⟨0, [(54, hA2)], [0]⟩] .go) (.sq .go .go)) (.sq .go (.sq .go (.sq .go (.sq (.sq .go (.sq (.loop [20, 76, 74, 4, 2, 54, 56, 58, 60, 62, 64, 78, 80, 82, 84, 86, 88, 90, 104, 106, 108, 110, 112, 114, 128, 130, 132, 134, 136, 138, 140, 144, 146, 148, 150, 152, 142, 154, 18, 116, 126, 124, 122, 120, 118, 100, 102, 24, 92, 94, 96, 98, 12, 22, 66, 68, 70, 72, 17, 16] [(20, hA1), (18, hA10), (16, hA4)] [64, 62, 60, 58, 56, 54, 12, 2, 4] [⟨2, [(18, hA10)], [20, 16, 64, 62, 14, 60, 58, 56, 54, 6, 2, 4]⟩] (.sq (.sq (.opn [(16, 0, 8)]) .go) (.sq (.sq (.sq (.opn [(16, 0, 8)]) (.sq .go (.sq (.loop [17, 66, 68, 70, 72, 78, 80, 82, 84, 86, 88, 90, 104, 106, 108, 110, 112, 114, 128, 130, 132, 134, 136, 138, 140, 144, 146, 148, 150, 152, 142, 16, 154, 18, 126, 124, 122, 120, 118, 116, 100, 102, 24, 92, 94, 96, 98] [(16, hA4), (18, hA10), (24, hA1)] [90, 88, 86, 84, 82, 80, 78, 72, 70, 68, 66] [⟨4, [(16, hA4), (18, hA10)], [24, 22, 90, 88, 86, 84, 82, 80, 78, 72, 70, 68, 66]⟩] (.sq (.sq .go .go) (.sq (.sq (.sq .go (.cut [116, 118, 120, 122, 124, 126, 18, 154, 16, 142, 152, 150, 148, 146, 144, 140, 138, 136, 134, 132, 130, 128, 114, 112, 110, 108, 106, 104, 98, 96, 94, 92, 17] [⟨0, [(18, hA10), (16, hA4)], [114, 112, 110, 108, 106, 104, 98, 96, 94, 92]⟩] (.sq .go (.sq (.opn [(16, 0, 8)]) (.cut [154, 16, 142, 152, 150, 148, 146, 144] [⟨0, [(16, hA4)], [140, 138, 136, 134, 132, 130, 128, 114, 112, 110, 108, 106, 104, 98, 96, 94, 92]⟩] .go))))) .go) .go))) .go))) .go) .go))) .go)) .go))))))

abbrev E87 : Env := mkE tab gl 66 false [(65, 5), (60, 1), (61, 1), (21, 1), (65, 1), (3, 2), (4, 2), (15, 2), (29, 2), (39, 2), (57, 2), (63, 2), (8, 2)]
abbrev plan87 : Plan := (.sq .go (.sq .go (.sq (.sq .go (.sq (.loop [18, 2, 0, 20, 22, 24, 26, 28, 30, 46, 48, 50, 52, 54, 56, 58, 60, 62, 64, 66, 68, 70, 72, 74, 82, 84, 86, 88, 90, 92, 94, 96, 116, 114, 112, 110, 108, 106, 104, 102, 100, 98, 76, 80, 78, 118, 122, 19, 124, 120, 128, 15, 126, 42, 44, 16, 32, 34, 36, 38, 40] [(15, hA12), (16, hA1)] [30, 28, 26, 24, 22, 20, 0, 2] [⟨2, [(15, hA12)], [16, 30, 28, 26, 24, 22, 20, 8, 6, 0, 2, 4]⟩] (.sq (.sq .go .go) (.sq (.sq (.sq .go (.sq (.sq .go (.cut [78, 80, 76, 98, 100, 102, 104, 106, 108, 110, 112, 114, 116, 19, 96, 94, 92, 90, 88, 86, 84, 82, 74, 72, 70, 68, 66, 64, 62, 60, 58, 56, 54, 52, 50, 48, 46, 40, 38, 36, 34, 32] [⟨0, [(19, hA15)], [74, 72, 70, 68, 66, 64, 62, 60, 58, 56, 54, 52, 50, 48, 46, 40, 38, 36, 34, 32]⟩] (.sq .go (.sq .go (.cut [98, 100, 102, 104, 106, 108, 110, 112, 114, 116, 19] [⟨0, [(19, hA15)], [96, 94, 92, 90, 88, 86, 84, 82, 74, 72, 70, 68, 66, 64, 62, 60, 58, 56, 54, 52, 50, 48, 46, 40, 38, 36, 34, 32]⟩] .go))))) .go)) .go) .go))) .go)) .go)))

abbrev E57 : Env := mkE tab gl 42 false [(29, 1), (41, 1), (11, 1), (21, 1), (2, 2), (3, 2), (6, 2), (7, 2), (4, 2)]
abbrev plan57 : Plan := (.sq .go (.sq (.sq (.cut [30, 28, 26, 24, 22, 20, 18, 16] [⟨0, [(30, hA2)], [0, 2]⟩] .go) (.sq .go .go)) (.sq .go (.sq (.sq .go (.sq (.loop [30, 46, 48, 50, 52, 54, 56, 60, 62, 64, 66, 68, 70, 72, 74, 76, 78, 58, 12, 80, 42, 44, 14, 32, 34, 36, 38, 40] [(12, hA18), (14, hA1)] [30, 10, 8] [⟨2, [(12, hA18)], [14, 30, 6, 4]⟩] (.sq (.sq .go .go) (.sq (.sq (.sq .go (.cut [80, 12, 58, 78, 76, 74, 72, 70, 68, 66, 64, 62, 60] [⟨0, [(12, hA18)], [56, 54, 52, 50, 48, 46, 40, 38, 36, 34, 32]⟩] .go)) .go) .go))) .go)) .go))))

abbrev E58 : Env := mkE tab gl 33 false [(30, 5), (32, 5), (12, 1), (10, 1), (30, 1), (32, 1), (1, 2), (3, 2), (4, 2)]
abbrev plan58 : Plan := (.sq .go (.sq .go (.sq (.sq .go (.sq (.loop [8, 22, 20, 58, 6, 24, 54, 56, 52, 38, 50, 48, 46, 44, 42, 40, 36, 34, 32, 30, 28, 26, 10, 12, 14, 16, 18] [(8, hA1), (6, hA19)] [0] [⟨2, [(6, hA19)], [8, 0]⟩] (.sq (.sq .go .go) (.sq .go .go))) .go)) (.sq .go .go))))

abbrev E26 : Env := mkE tab gl 44 true [(43, 5), (16, 1), (17, 1), (15, 1), (35, 1), (40, 1), (43, 1), (11, 2), (14, 2), (7, 2), (8, 2), (24, 2), (32, 2), (42, 2)]
abbrev plan26 : Plan := (.sq .go (.sq .go (.sq .go (.sq .go (.sq (.sq .go (.sq .go .go)) (.sq .go (.sq (.sq (.cut [1, 78, 76, 74, 72, 70, 68, 66] [⟨0, [(1, hA3), (78, hA2)], [64, 62, 60, 58, 56, 54, 52, 50, 46, 44, 42, 16, 14, 40, 38, 30, 36, 34, 32, 12, 28, 26, 24, 10, 22, 20, 2]⟩] .go) (.cut [19, 1, 84, 82, 80] [⟨0, [(19, hA13), (1, hA3)], [78]⟩] .go)) .go)))))))

abbrev E7 : Env := mkE tab gl 92 false [(15, 1), (25, 1), (72, 1), (49, 1), (5, 2), (6, 2), (9, 2), (18, 2), (24, 2), (12, 2), (14, 2), (13, 2), (8, 2)]
abbrev plan7 : Plan := (.sq .go (.sq .go (.sq .go (.sq (.cut [38, 40, 42, 44, 46, 48, 22, 23, 33] [⟨0, [(33, hA3), (22, (.lf (.cst (.ptr 11 1 0)))), (23, (.boxv 1 true [(.int .u64), (.int .u64), (.sl 0 (.st 120 (.cons (.int .i64) (.cons (.st 112 (.cons (.sl (.int .i64)) (.cons (.st 88 (.cons (.int .i64) (.cons (.int .i64) (.cons (.int .i64) (.cons (.int .i64) (.cons (.int .i64) (.cons (.int .i64) (.cons (.int .i64) (.cons (.int .i64) (.cons (.int .u64) (.cons .str .unit))))))))))) .unit))) .unit))))]))], []⟩] .go) (.sq (.cut [50, 52, 54, 56, 58, 60, 62, 64, 66, 68, 70, 72, 74, 76, 78, 80, 82, 84, 86, 88, 90, 92, 24, 33] [⟨0, [(33, hA3), (24, (.lf (.sl 0 (.st 48 (.cons (.sl (.st 96 (.cons (.int .i64) (.cons (.st 88 (.cons (.int .i64) (.cons (.int .i64) (.cons (.int .i64) (.cons (.int .i64) (.cons (.int .i64) (.cons (.int .i64) (.cons (.int .i64) (.cons (.int .i64) (.cons (.int .u64) (.cons .str .unit))))))))))) .unit)))) (.cons (.sl (.st 96 (.cons (.int .i64) (.cons (.st 88 (.cons (.int .i64) (.cons (.int .i64) (.cons (.int .i64) (.cons (.int .i64) (.cons (.int .i64) (.cons (.int .i64) (.cons (.int .i64) (.cons (.int .i64) (.cons (.int .u64) (.cons .str .unit))))))))))) .unit)))) .unit))))))], []⟩] .go) (.sq (.sq .go (.sq (.loop [26, 100, 98, 142, 140, 138, 136, 134, 132, 130, 128, 16, 148, 150, 152, 154, 156, 158, 160, 162, 164, 166, 168, 170, 172, 174, 176, 178, 180, 144, 146, 28, 126, 124, 122, 120, 118, 116, 114, 112, 110, 108, 106, 104, 102, 22, 20, 36, 34, 18, 32, 30, 12, 10, 0, 2, 4, 6, 94, 96] [(26, hA1)] [22, 20, 36, 34, 18, 32, 30, 16, 12, 10, 0, 2, 4, 6] [⟨1, [(16, hA2)], hL13⟩, ⟨2, [], hL13⟩] (.sq (.sq .go .go) (.sq (.sq (.sq (.sq .go (.sq .go .go)) (.sq .go (.sq (.loop [142, 140, 138, 136, 134, 132, 130, 128, 16, 148, 150, 152, 154, 156, 158, 160, 162, 164, 166, 168, 170, 172, 174, 176, 178, 180, 144, 146, 28] [(28, hA1)] [126, 124, 122, 120, 118, 116, 114, 112, 110, 108, 106, 104, 102, 96, 94] [⟨1, [(16, hA2)], hL14⟩, ⟨4, [], hL14⟩] (.sq (.sq .go .go) (.sq (.sq (.sq .go (.sq .go .go)) .go) .go))) .go))) .go) .go))) .go)) .go))))))
end Go.Abs.C13

namespace Sp13
abbrev Tp := List Int × Int × Unit
def on {α : Type} (b : Bool) (x : α) : Option α := bif b then some x else none
def wf (t : Tp) : Bool := decide (0 ≤ t.2.1) && decide (t.2.1 ≤ t.1.length) && decide (t.1.length ≤ 600)
def cut (x n : Int) : Int := bif decide (n < 1) then 0 else x.emod n
def raw (t : Tp) : Int × Tp := bif decide (t.2.1 < t.1.length) then (t.1.getD t.2.1.toNat 0, t.1, t.2.1 + 1, ()) else (0, t)
def next (t : Tp) (n : Int) : Int × Tp := (cut (raw t).1 n, (raw t).2)
def small (n : Int) : Bool := decide (-2305843009213693952 ≤ n) && decide (n ≤ 2305843009213693952)
def range (t : Tp) (a b : Int) : Int × Tp := (a + (next t (b - a + 1)).1, (next t (b - a + 1)).2)
def one (t : Tp) (n : Int) : Bool × Tp := (decide ((next t n).1 = n - 1), (next t n).2)
def pick (t : Tp) (l : List Int) : Int × Tp := (l.getD (next t l.length).1.toNat 0, (next t l.length).2)
def wilds : List Int := [-1, 0, 1, 7, 8, 23, 24, 31, 32, 63, 64, 99, 100, 255, 256, 257, 1000, 1001, 1023, 1024, 1000000, 1000001, 1099511627776, 9223372036854775807, -9223372036854775808]
def wild (t : Tp) : Int × Tp := pick t wilds
def tape (l : List Int) : Tp := (l.take 600, 0, ())
def length (t : Tp) : Int × Tp := pick t [8, 8, 16, 32, 64]
def inside (n lo hi : Int) : Bool := decide (lo ≤ n) && decide (n ≤ hi)
def vlen (n : Int) : Bool := decide (n = 8) || decide (n = 16) || decide (n = 32) || decide (n = 64)
abbrev Rt := Int × Bool × Unit
abbrev Lk := Int × Int × Int × Int × Int × Unit
abbrev To := List Rt × List Lk × Unit
abbrev zR : Rt := (0, false, ())
abbrev zL : Lk := (0, 0, 0, 0, 0, ())
def idx {α : Type} (p : α → Bool) (l : List α) : Int := bif l.any p then (l.findIdx p : Nat) else -1
def lessL (a b : Lk) : Bool := decide (a.1 < b.1) || (decide (a.1 = b.1) && decide (a.2.1 < b.2.1))
def linkIn (cost tree : Int) (skip : Bool) (b a : Int) (s : List Lk × Tp) : List Lk × Tp :=
  let c : Bool × Tp := bif decide (a = tree) && !skip then (true, s.2) else one s.2 3
  bif c.1 then (let x := range c.2 1 cost; let y := range x.2 1 cost; let z := next y.2 4; (s.1 ++ [(a, b, x.1, y.1, z.1, ())], z.2)) else (s.1, c.2)
def linksRow (cost tree : Int) (skip : Bool) (b : Int) (s : List Lk × Tp) : Nat → List Lk × Tp
  | 0 => s
  | k + 1 => linkIn cost tree skip b (k + 1) (linksRow cost tree skip b s k)
def linksAll (cost : Int) (t : Tp) : Nat → List Lk × Tp
  | 0 => ([], t)
  | k + 1 => let s := linksAll cost t k; let tr := range s.2 1 (k + 1); let sk := one tr.2 9; linksRow cost tr.1 sk.1 (k + 2) (s.1, sk.2) (k + 1)
def routersN (k : Nat) : List Rt := (List.range k).map fun (i : Nat) => ((i : Int) + 1, true, ())
def ins (x : Lk) (l : List Lk) : List Lk := l.takeWhile (fun y => lessL y x) ++ x :: l.dropWhile (fun y => lessL y x)
def ordN (l : List Lk) : Nat → List Lk
  | 0 => []
  | k + 1 => ins (l.getD k zL) (ordN l k)
def ord (l : List Lk) : List Lk := ordN l l.length
def setA (l : List Lk) (i : Nat) (c : Int) : List Lk := l.set i ((l.getD i zL).1, (l.getD i zL).2.1, c, (l.getD i zL).2.2.2)
def setB (l : List Lk) (i : Nat) (c : Int) : List Lk := l.set i ((l.getD i zL).1, (l.getD i zL).2.1, (l.getD i zL).2.2.1, c, (l.getD i zL).2.2.2.2)
def setC (l : List Lk) (i : Nat) (c : Int) : List Lk := l.set i ((l.getD i zL).1, (l.getD i zL).2.1, (l.getD i zL).2.2.1, (l.getD i zL).2.2.2.1, c, ())
def manyR : Nat → List Rt → List Rt
  | 0, l => l
  | k + 1, l => manyR k l ++ [(50 + (k : Int), false, ())]
def spoilT (g : To) (t : Tp) : To × Tp :=
  let m := next t 7
  bif decide (m.1 = 0) then (let a := pick m.2 [0, 1, 99, 100, -1]; ((g.1 ++ [(a.1, false, ())], g.2), a.2)) else
  bif decide (m.1 = 1) then (let a := next m.2 4; let b := next a.2 4; ((g.1, g.2.1 ++ [(a.1, b.1, 1, 1, 0, ())], ()), b.2)) else
  bif decide (m.1 = 2) then (bif decide (0 < g.2.1.length) then (let a := next m.2 g.2.1.length; let b := wild a.2; ((g.1, setA g.2.1 a.1.toNat b.1, ()), b.2)) else (g, m.2)) else
  bif decide (m.1 = 3) then (bif decide (0 < g.2.1.length) then (let a := next m.2 g.2.1.length; let b := wild a.2; ((g.1, setB g.2.1 a.1.toNat b.1, ()), b.2)) else (g, m.2)) else
  bif decide (m.1 = 4) then (bif decide (0 < g.2.1.length) then (let a := next m.2 g.2.1.length; let b := wild a.2; ((g.1, setC g.2.1 a.1.toNat b.1, ()), b.2)) else (g, m.2)) else
  bif decide (m.1 = 5) then (bif decide (0 < g.2.1.length) then (let a := next m.2 g.2.1.length; ((g.1, g.2.1 ++ [g.2.1.getD a.1.toNat zL], ()), a.2)) else (g, m.2)) else
  ((manyR 25 g.1, g.2), m.2)
def topo (t : Tp) (most n : Int) : To × Tp :=
  let k := range t 1 most
  let c := pick k.2 [1, 2, 2, 5]
  let s := linksAll c.1 c.2 (k.1.toNat - 1)
  let g : To := (routersN k.1.toNat, ord s.1, ())
  bif decide (0 < n) then (let o := one s.2 n; bif o.1 then spoilT g o.2 else (g, o.2)) else (g, s.2)
abbrev Ow := Int × (Int × Int × Int × Unit) × Unit
abbrev Ed := Int × Int × Unit
abbrev Pn := Int × Int × List Ed × Unit
abbrev zO : Ow := (0, (0, 0, 0, ()), ())
abbrev zE : Ed := (0, 0, ())
abbrev zP : Pn := (0, 0, [], ())
def subO (o : Ow) : Int := o.2.1.1
def idO (o : Ow) : Int := o.2.1.2.1
def lenO (o : Ow) : Int := o.2.1.2.2.1
def badO (o : Ow) : Bool := !inside o.1 1 99 || !inside (subO o) 0 7 || !inside (idO o) 1 256 || !vlen (lenO o)
def lessO (a b : Ow) : Bool := decide (a.1 < b.1) || (decide (a.1 = b.1) && decide (subO a < subO b))
def upO (l : List Ow) : Bool := (List.range (l.length - 1)).all fun i => lessO (l.getD i zO) (l.getD (i + 1) zO)
def chk (l : List Ow) : Int := bif decide (192 < l.length) then 3 else bif l.any badO then 2 else bif !upO l then 25 else 0
def mine (s : Int) (o : Ow) : Bool := decide (subO o = s)
def hit (s id : Int) (o : Ow) : Bool := decide (subO o = s) && decide (idO o = id)
def cntI (l : List Ow) (s id : Int) : Nat := l.countP (hit s id)
def conf (l : List Ow) (s : Int) : List Int := bif decide (chk l = 0) then ((List.range 256).filter fun (i : Nat) => decide (1 < cntI l s ((i : Int) + 1))).map fun (i : Nat) => (i : Int) + 1 else []
def lenM (l : List Ow) (s : Int) : Int := bif decide (chk l = 0) then l.foldl (fun out o => bif mine s o && (decide (out = 0) || decide (lenO o < out)) then lenO o else out) 0 else 0
def freeP (p : Int → Bool) : Int × Bool × Unit :=
  match (List.range 256).find? fun (i : Nat) => p ((i : Int) + 1) with
  | some i => ((i : Int) + 1, true, ())
  | none => (0, false, ())
def edge (o : Ow) : Ed := (o.1, idO o, ())
def edges (l : List Ow) (s : Int) : List Ed := (List.range 256).flatMap fun (i : Nat) => bif decide (cntI l s ((i : Int) + 1) = 1) then (l.filter (hit s ((i : Int) + 1))).map edge else []
def plan (l : List Ow) (s : Int) : Pn × Int × Unit :=
  bif !decide (chk l = 0) then (zP, chk l, ()) else bif !inside s 0 7 then (zP, 2, ()) else
  bif decide (24 < (edges l s).length) then (zP, 3, ()) else ((s, lenM l s, edges l s, ()), 0, ())
def setId (o : Ow) (id : Int) : Ow := (o.1, (subO o, id, lenO o, ()), ())
def resN (l : List Ow) (s : Int) : Nat → Option (List Ow × List Int)
  | 0 => some ([], [])
  | k + 1 => match resN l s k with
    | none => none
    | some r =>
      let o := l.getD k zO
      bif mine s o && decide (0 < (l.take k).countP (hit s (idO o))) then
        (let f := freeP fun id => decide (cntI l s id = 0) && !r.2.any (fun g => decide (g = id))
         bif f.2.1 then some (r.1 ++ [setId o f.1], r.2 ++ [f.1]) else none)
      else some (r.1 ++ [o], r.2)
def res (l : List Ow) (s : Int) : List Ow × Int × Unit :=
  bif !decide (chk l = 0) then ([], chk l, ()) else
  match resN l s l.length with
  | none => ([], 9, ())
  | some r => (r.1, 0, ())
def place (id n : Int) : Int × Int × Bool × Unit := bif !vlen n || !inside id 1 256 then (0, 0, false, ()) else ((id - 1) / n, (id - 1) % n, true, ())
def at_ (set bit n : Int) : Int × Bool × Unit :=
  bif !vlen n || !inside bit 0 (n - 1) || !inside set 0 31 then (0, false, ()) else
  bif decide (256 < set * n + bit + 1) then (0, false, ()) else (set * n + bit + 1, true, ())
def repeats : List Int → Bool
  | [] => false
  | x :: r => r.any (fun y => decide (y = x)) || repeats r
def upE (l : List Ed) : Bool := (List.range (l.length - 1)).all fun i => decide ((l.getD i zE).2.1 < (l.getD (i + 1) zE).2.1)
def validP (p : Pn) : Bool :=
  inside p.1 0 7 && (vlen p.2.1 || (decide (p.2.1 = 0) && decide (p.2.2.1.length = 0))) && decide (p.2.2.1.length ≤ 24) &&
  (p.2.2.1.all fun e => inside e.2.1 1 256 && inside e.1 1 99) && upE p.2.2.1 && !repeats (p.2.2.1.map fun e => e.1)
def has (l : List Int) (n : Int) : Bool := l.any fun x => decide (x = n)
def orderN (t : Tp) : Nat → List Int × Tp
  | 0 => ([], t)
  | k + 1 => let s := orderN t k; let a := next s.2 ((k : Int) + 1); (s.1.take a.1.toNat ++ (k : Int) :: s.1.drop a.1.toNat, a.2)
def order (t : Tp) (n : Nat) : List Int × Tp := orderN t n
def edgeS (g : To) (len : Int) (s : List Ed × Int × Tp) (x : Int) : List Ed × Int × Tp :=
  let c := next s.2.2 4
  bif decide (c.1 = 0) then (s.1, s.2.1, c.2) else
  let p := pick c.2 [1, 1, 1, 2, len - 1]
  bif decide (s.2.1 + p.1 ≤ 256) then (s.1 ++ [((g.1.getD x.toNat zR).1, s.2.1 + p.1, ())], s.2.1 + p.1, p.2) else (s.1, s.2.1 + p.1, p.2)
def edgesN (g : To) (len : Int) (s : List Ed × Int × Tp) (l : List Int) : List Ed × Int × Tp := l.foldl (edgeS g len) s
def spoilP (p : Pn) (id : Int) (t : Tp) : Pn × Tp :=
  let m := next t 5
  bif decide (m.1 = 0) then (let a := wild m.2; ((a.1, p.2), a.2)) else
  bif decide (m.1 = 1) then (let a := pick m.2 [0, 8, 24, 64, 128]; ((p.1, a.1, p.2.2), a.2)) else
  bif decide (m.1 = 2) then (let a := pick m.2 [0, 1, 99, 100]; let b := pick a.2 [0, 1, 256, 257]; ((p.1, p.2.1, p.2.2.1 ++ [(a.1, b.1, ())], ()), b.2)) else
  bif decide (m.1 = 3) then (bif decide (0 < p.2.2.1.length) then (let a := wild m.2; ((p.1, p.2.1, p.2.2.1.set 0 ((p.2.2.1.getD 0 zE).1, a.1, ()), ()), a.2)) else (p, m.2)) else
  ((p.1, p.2.1, p.2.2.1 ++ [(50, id + 1, ())], ()), m.2)
def planT (t : Tp) (g : To) (n : Int) : Pn × Tp :=
  let a := next t 3
  let b := length a.2
  let o := order b.2 g.1.length
  let e := edgesN g b.1 ([], 0, o.2) o.1
  let p : Pn := (a.1, b.1, e.1, ())
  bif decide (0 < n) then (let q := one e.2.2 n; bif q.1 then spoilP p e.2.1 q.2 else (p, q.2)) else (p, e.2.2)
namespace Bt
def full (n : Int) : Int := bif vlen n then 2 ^ n.toNat - 1 else 0
def tb (b : Int) (k : Nat) : Bool := b.toNat.testBit k
def has (b k : Int) : Bool := decide (0 ≤ k) && decide (k < 64) && tb b k.toNat
def bit1 (k : Int) : Int := bif decide (k < 0) || decide (63 < k) then 0 else 2 ^ k.toNat
def and (x y : Int) : Int := ((Nat.land x.toNat y.toNat : Nat) : Int)
def or (x y : Int) : Int := ((Nat.lor x.toNat y.toNat : Nat) : Int)
def ones (b : Int) : List Nat := (List.range 64).filter (tb b)
def list (b : Int) : List Int := (ones b).map fun (k : Nat) => (k : Int)
def nth (b n : Int) : Int := bif decide (n < 0) || decide ((list b).length ≤ n) then -1 else (list b).getD n.toNat 0
def rankN (b : Int) (k : Nat) : Nat := ((List.range k).filter (tb b)).length
def bitsV (t : Tp) (n : Int) : Int × Tp :=
  let r := raw t
  let q := raw r.2
  let k := next q.2 6
  bif decide (k.1 = 0) then (0, k.2) else
  bif decide (k.1 = 1) then (bit1 (next k.2 n).1, (next k.2 n).2) else
  bif decide (k.1 = 2) then (18446744073709551615, k.2) else
  (((Nat.xor (r.1.emod 18446744073709551616 * 11400714819323198485 % 18446744073709551616).toNat (q.1.emod 18446744073709551616).toNat : Nat) : Int), k.2)
def bits (t : Tp) (n : Int) : Int × Tp := (and (bitsV t n).1 (full n), (bitsV t n).2)
end Bt
def upI (l : List Int) : Bool := (List.range (l.length - 1)).all fun i => decide (l.getD i 0 < l.getD (i + 1) 0)
def badR (r : Rt) : Bool := !inside r.1 1 99
def badK (l : Lk) : Bool := !inside l.2.2.1 1 1000 || !inside l.2.2.2.1 1 1000 || !inside l.2.2.2.2.1 0 1000
def down (l : Lk) : Bool := decide (l.2.1 ≤ l.1)
def hasR (l : List Rt) (id : Int) : Bool := l.any fun r => decide (r.1 = id)
def upR (l : List Rt) : Bool := (List.range (l.length - 1)).all fun i => decide ((l.getD i zR).1 < (l.getD (i + 1) zR).1)
def upL (l : List Lk) : Bool := (List.range (l.length - 1)).all fun i => lessL (l.getD i zL) (l.getD (i + 1) zL)
def chkT (g : To) : Int :=
  bif decide (24 < g.1.length) || decide (60 < g.2.1.length) then 3 else
  bif g.1.any badR then 2 else
  bif !upR g.1 then 25 else
  bif g.2.1.any badK then 2 else
  bif g.2.1.any (fun l => !hasR g.1 l.1 || !hasR g.1 l.2.1) then 4 else
  bif g.2.1.any down then 8 else
  bif !upL g.2.1 then 25 else 0
def capR (l : List Rt) (id : Int) : Bool := (l.getD (l.findIdx fun r => decide (r.1 = id)) zR).2.1
def okT (g : To) : Bool := decide (chkT g = 0)
def hasT (g : To) (id : Int) : Bool := okT g && hasR g.1 id
def capT (g : To) (id : Int) : Bool := okT g && capR g.1 id
def price : List Lk → Int → Int → Int × Bool × Unit
  | [], _, _ => (0, false, ())
  | l :: r, a, b => bif decide (l.1 = a) && decide (l.2.1 = b) then (l.2.2.1, true, ()) else bif decide (l.2.1 = a) && decide (l.1 = b) then (l.2.2.2.1, true, ()) else price r a b
def near (g : To) (r : Int) : List Int := (g.1.filter fun x => (price g.2.1 r x.1).2.1).map fun x => x.1
def mixN (l : List Rt) (t : Tp) : Nat → List Rt × Tp
  | 0 => (l, t)
  | k + 1 => let s := mixN l t k; let o := one s.2 3; (s.1.set k ((s.1.getD k zR).1, !o.1, ()), o.2)
def mixed (t : Tp) (most : Int) : To × Tp :=
  let g := topo t most 0
  let m := mixN g.1.1 g.2 g.1.1.length
  ((m.1, g.1.2), m.2)
def validB (b n : Int) : Bool := vlen n && decide (b < 2 ^ n.toNat)
def textN : Nat → Tp → List Int × Tp
  | 0, t => ([], t)
  | k + 1, t => ((textN k t).1 ++ [(next (textN k t).2 256).1], (next (textN k t).2 256).2)
def text (t : Tp) (n : Int) : List Int × Tp := textN (range t 0 n).1.toNat (range t 0 n).2
abbrev Pk := Int × Int × Int × Int × Int × Int × Int × Int × Int × List Int × Unit
def zp : Pk := (0, 0, 0, 0, 0, 0, 0, 0, 0, [], ())
def md (p : Pk) : Int := p.1
def sd (p : Pk) : Int := p.2.1
def st (p : Pk) : Int := p.2.2.1
def ln (p : Pk) : Int := p.2.2.2.1
def tl (p : Pk) : Int := p.2.2.2.2.1
def en (p : Pk) : Int := p.2.2.2.2.2.1
def ig (p : Pk) : Int := p.2.2.2.2.2.2.1
def pr (p : Pk) : Int := p.2.2.2.2.2.2.2.1
def bt (p : Pk) : Int := p.2.2.2.2.2.2.2.2.1
def py (p : Pk) : List Int := p.2.2.2.2.2.2.2.2.2.1
def validK (p : Pk) : Bool := inside (md p) 1 3 && inside (sd p) 0 7 && inside (st p) 0 31 && validB (bt p) (ln p) && inside (tl p) 0 63 && inside (en p) 0 1023 && inside (ig p) 0 256 && inside (pr p) 0 7 && decide ((py p).length ≤ 64)
def plane (p : Pk) : Int := bif validK p then en p % 8 else 0
def only (p : Pk) (k : Int) : Pk := bif validK p && Bt.has (bt p) k then (md p, sd p, st p, ln p, tl p, en p, ig p, pr p, Bt.bit1 k, py p, ()) else zp
def masked (p : Pk) (m : Int) : Pk × Bool × Unit :=
  bif validK p && !decide (tl p = 0) && !decide (Bt.and (bt p) m = 0) then ((md p, sd p, st p, ln p, tl p - 1, en p, ig p, pr p, Bt.and (bt p) m, py p, ()), true, ()) else (zp, false, ())
def pkt (t : Tp) : Pk × Tp :=
  let l := length t
  let m := range l.2 1 3
  let s := range m.2 0 7
  let z := pick s.2 [0, 0, 1, 2, 31]
  let h := pick z.2 [0, 1, 2, 5, 63]
  let e := next h.2 1024
  let g := pick e.2 [0, 1, 8, 255, 256]
  let o := next g.2 8
  let b := Bt.bits o.2 l.1
  let y := text b.2 6
  ((m.1, s.1, z.1, l.1, h.1, e.1, g.1, o.1, b.1, y.1, ()), y.2)
def pad (l : List Int) : List Int := l ++ (List.replicate ((64 - l.length) / 3) [97, 98, 99]).flatten
def spoilK (p : Pk) (t : Tp) : Pk × Tp :=
  let k := next t 9
  bif decide (k.1 = 0) then (((wild k.2).1, p.2), (wild k.2).2) else
  bif decide (k.1 = 1) then ((md p, (wild k.2).1, p.2.2), (wild k.2).2) else
  bif decide (k.1 = 2) then ((md p, sd p, (wild k.2).1, p.2.2.2), (wild k.2).2) else
  bif decide (k.1 = 3) then ((md p, sd p, st p, (pick k.2 [0, 8, 16, 24, 63, 64, 65, -8]).1, p.2.2.2.2), (pick k.2 [0, 8, 16, 24, 63, 64, 65, -8]).2) else
  bif decide (k.1 = 4) then ((md p, sd p, st p, ln p, (wild k.2).1, p.2.2.2.2.2), (wild k.2).2) else
  bif decide (k.1 = 5) then ((md p, sd p, st p, ln p, tl p, (wild k.2).1, p.2.2.2.2.2.2), (wild k.2).2) else
  bif decide (k.1 = 6) then ((md p, sd p, st p, ln p, tl p, en p, (wild k.2).1, p.2.2.2.2.2.2.2), (wild k.2).2) else
  bif decide (k.1 = 7) then ((md p, sd p, st p, ln p, tl p, en p, ig p, (wild k.2).1, p.2.2.2.2.2.2.2.2), (wild k.2).2) else
  ((md p, sd p, st p, ln p, tl p, en p, ig p, pr p, bt p, pad (py p) ++ (text k.2 4).1, ()), (text k.2 4).2)
def packet (t : Tp) (n : Int) : Pk × Tp :=
  let p := pkt t
  bif decide (0 < n) then (bif (one p.2 n).1 then spoilK p.1 (one p.2 n).2 else (p.1, (one p.2 n).2)) else p
abbrev Rw := Int × List Int × Unit
abbrev Tb := Int × Int × Int × List Rw × Unit
abbrev zW : Rw := (0, [], ())
def badW (r : Rw) : Bool := !inside r.1 1 256 || r.2.1.any fun n => !inside n 1 99
def selfW (id : Int) (r : Rw) : Bool := decide (1 < r.2.1.length) && r.2.1.any fun y => decide (id = y)
def upW (l : List Rw) : Bool := (List.range (l.length - 1)).all fun i => decide ((l.getD i zW).1 < (l.getD (i + 1) zW).1)
def chkB (t : Tb) : Int :=
  bif !inside t.1 1 99 || !inside t.2.1 0 7 || (!vlen t.2.2.1 && !(decide (t.2.2.1 = 0) && decide (t.2.2.2.1.length = 0))) || t.2.2.2.1.any badW then 2 else
  bif decide (256 < t.2.2.2.1.length) || t.2.2.2.1.any (fun r => decide (24 < r.2.1.length)) then 3 else
  bif !(t.2.2.2.1.all fun r => upI r.2.1) || !upW t.2.2.2.1 then 25 else
  bif t.2.2.2.1.any (selfW t.1) then 8 else 0
def findW (t : Tb) (id : Int) : Rw × Bool × Unit :=
  match t.2.2.2.1.find? fun r => decide (r.1 = id) with
  | some r => (r, true, ())
  | none => (zW, false, ())
def nextW (r : Rw) (plane : Int) : Int := bif decide (r.2.1.length = 0) then 0 else r.2.1.getD (plane % (r.2.1.length : Int)).toNat 0
def hopF (t : Tb) (id plane : Int) : Int := bif (findW t id).2.1 then nextW (findW t id).1 plane else 0
def validM (t : Tb) (plane set : Int) : Bool := decide (chkB t = 0) && decide (0 ≤ plane) && decide (plane < 8) && decide (0 ≤ set) && decide (set ≤ 31)
abbrev Fr := List Int × Pk × Unit
abbrev Cp := Int × Fr × Unit
abbrev Oc := Int × Int × List Cp × Unit
abbrev Dl := Int × Pk × Unit
def bitsO (o : Oc) : Int := o.2.2.1.foldl (fun a c => Bt.or a (bt c.2.1.2.1)) (Bt.or o.1 o.2.1)
def local1 (r : Int) (o : Oc) (p : Pk) : List Dl := (Bt.list o.1).map fun k => (r, only p k, ())
abbrev t0 : Tb := (1, 0, 8, [(1, [2, 3], ()), (2, [3], ())], ())
abbrev zF : Fr := ([], zp, ())
abbrev zC : Cp := (0, zF, ())
abbrev zOc : Oc := (0, 0, [], ())
abbrev zTb : Tb := (0, 0, 0, [], ())
def Bt.andn (x y : Int) : Int := ((Nat.land x.toNat (18446744073709551615 - y.toNat) : Nat) : Int)
def colL (len plane set nb : Int) (l : List Rw) : Int := l.foldl (fun a r => bif decide ((place r.1 len).1 = set) && !decide (nextW r plane = 0) && decide (nextW r plane = nb) then Bt.or a (Bt.bit1 (place r.1 len).2.1) else a) 0
def maskF (t : Tb) (plane set nb : Int) : Int := bif validM t plane set then colL t.2.2.1 plane set nb t.2.2.2.1 else 0
def toF (t : Tb) (id plane : Int) : Int := bif validM t plane 0 then nextW (findW t id).1 plane else 0
def setB8 (p : Pk) (x : Int) : Pk := (md p, sd p, st p, ln p, tl p, en p, ig p, pr p, x, py p, ())
def fstep (t : Tb) (p : Pk) (s : Int × Int × Int × List Cp) : Int × Int × Int × List Cp :=
  let k := Bt.nth s.1 0
  let to := toF t (at_ (st p) k (ln p)).1 (plane p)
  bif decide (to = 0) then (Bt.andn s.1 (Bt.bit1 k), s.2.1, Bt.or s.2.2.1 (Bt.bit1 k), s.2.2.2) else
  bif decide (to = t.1) then (Bt.andn s.1 (Bt.bit1 k), Bt.or s.2.1 (Bt.bit1 k), s.2.2.1, s.2.2.2) else
  let g := Bt.and s.1 (maskF t (plane p) (st p) to)
  let q := masked (setB8 p s.1) g
  bif q.2.1 then (Bt.andn s.1 g, s.2.1, s.2.2.1, s.2.2.2 ++ [(to, ([], q.1, ()), ())]) else (Bt.andn s.1 g, s.2.1, Bt.or s.2.2.1 g, s.2.2.2)
def fwdN (t : Tb) (p : Pk) : Nat → Int × Int × Int × List Cp → Int × Int × Int × List Cp
  | 0, s => s
  | k + 1, s => bif decide (s.1 = 0) then s else fwdN t p k (fstep t p s)
def fwd0 (t : Tb) (p : Pk) : Oc := ((fwdN t p 64 (bt p, 0, 0, [])).2.1, (fwdN t p 64 (bt p, 0, 0, [])).2.2.1, (fwdN t p 64 (bt p, 0, 0, [])).2.2.2, ())
def fwdE (t : Tb) (p : Pk) : Int := bif !decide (chkB t = 0) || !validK p then 1 else bif decide (md p = 2) then 7 else bif !decide (t.2.1 = sd p) || !decide (t.2.2.1 = ln p) then 8 else 0
def fwd (t : Tb) (p : Pk) : Oc × Int × Unit := (bif decide (fwdE t p = 0) then fwd0 t p else zOc, fwdE t p, ())
end Sp13

namespace Sp13
open Go Go.Abs
set_option maxRecDepth 20000
set_option linter.unusedVariables false
noncomputable def r108_s0 (a0 : (@List (Int × (Bool × Unit)))) (a1 : Int) (a2 : (Int × Unit)) : (Option (Sum (Int × Unit) (Bool × ((Int × Unit) × Unit)))) :=
  (bif (decide (a2.1 < (Int.ofNat a0.length))) then (bif ((decide ((0 : Int) ≤ a2.1)) && (decide (a2.1 < (Int.ofNat a0.length)))) then (bif (decide ((List.getD a0 (Int.toNat a2.1) ((0 : Int), (false, ()))).1 = a1)) then (some (.inr (true, (a2, ())))) else (some (.inl ((IntKind.wrap Go.IntKind.i64 (a2.1 + (1 : Int))), ())))) else none) else (some (.inr (false, (((0 : Int), ()), ())))))
noncomputable def r108 (a0 : (@List (Int × (Bool × Unit)))) (a1 : (@List (Int × (Int × (Int × (Int × (Int × Unit))))))) (a2 : Int) : (Option (Int × Unit)) :=
  (Option.bind (Loop (@r108_s0 a0 a2) ((0 : Int), ())) (fun (y3 : (Bool × ((Int × Unit) × Unit))) => (bif y3.1 then (some y3.2.1) else (some ((0 : Int), ())))))
noncomputable def x108 (g : To) (r : Int) : (Option (Int × Unit)) := r108 g.1 g.2.1 r
noncomputable def r107_s0 (a0 : (@List Int)) (a1 : Int) (a2 : (Int × Unit)) : (Option (Sum (Int × Unit) (Int × Unit))) :=
  (Option.bind (bif (decide (a2.1 < (Int.ofNat a0.length))) then (bif ((decide ((0 : Int) ≤ a2.1)) && (decide (a2.1 < (Int.ofNat a0.length)))) then (some ((decide ((List.getD a0 (Int.toNat a2.1) (0 : Int)) < a1)), ())) else none) else (some (false, ()))) (fun (y3 : (Bool × Unit)) => (bif y3.1 then (some (.inl ((IntKind.wrap Go.IntKind.i64 (a2.1 + (1 : Int))), ()))) else (some (.inr a2)))))
noncomputable def r107 (a0 : (@List Int)) (a1 : Int) : (Option ((@List Int) × Unit)) :=
  (Option.bind (Loop (@r107_s0 a0 a1) ((0 : Int), ())) (fun (y2 : (Int × Unit)) => (Option.bind (bif (decide (y2.1 < (Int.ofNat a0.length))) then (bif ((decide ((0 : Int) ≤ y2.1)) && (decide (y2.1 < (Int.ofNat a0.length)))) then (some ((decide ((List.getD a0 (Int.toNat y2.1) (0 : Int)) = a1)), ())) else none) else (some (false, ()))) (fun (y3 : (Bool × Unit)) => (bif y3.1 then (some (a0, ())) else (bif ((true && (decide ((0 : Int) ≤ y2.1))) && (decide (y2.1 ≤ (Int.ofNat a0.length)))) then (bif (@Nat.ble ((0 + (List.drop 0 (List.take (Int.toNat y2.1) a0)).length) * 8) 140737488355328) then (bif (@Nat.ble ((([] ++ (List.drop 0 (List.take (Int.toNat y2.1) a0))).length + 1) * 8) 140737488355328) then (bif (((decide ((0 : Int) ≤ y2.1)) && (decide (y2.1 ≤ (Int.ofNat a0.length)))) && (decide ((Int.ofNat a0.length) ≤ (Int.ofNat a0.length)))) then (bif (@Nat.ble (((([] ++ (List.drop 0 (List.take (Int.toNat y2.1) a0))) ++ (a1 :: [])).length + (List.drop (Int.toNat y2.1) (List.take (Int.toNat (Int.ofNat a0.length)) a0)).length) * 8) 140737488355328) then (some (((([] ++ (List.drop 0 (List.take (Int.toNat y2.1) a0))) ++ (a1 :: [])) ++ (List.drop (Int.toNat y2.1) (List.take (Int.toNat (Int.ofNat a0.length)) a0))), ())) else none) else none) else none) else none) else none))))))
noncomputable def x107 (l : List Int) (x : Int) : (Option ((@List Int) × Unit)) := r107 l x
noncomputable def r105_s0 (a0 : (@List (Int × (Bool × Unit)))) (a1 : Int) (a2 : (Int × ((@List Int) × Unit))) : (Option (Sum (Int × ((@List Int) × Unit)) ((@List Int) × Unit))) :=
  (bif (decide (a2.1 < (Int.ofNat a2.2.1.length))) then (bif ((decide ((0 : Int) ≤ a2.1)) && (decide (a2.1 < (Int.ofNat a2.2.1.length)))) then (bif (@Nat.blt (Int.toNat a2.1) a2.2.1.length) then (bif ((decide ((0 : Int) ≤ a2.1)) && (decide (a2.1 < (Int.ofNat a0.length)))) then (Option.bind (bif (decide ((List.getD a0 (Int.toNat a2.1) ((0 : Int), (false, ()))).1 = a1)) then (bif ((decide ((0 : Int) ≤ a2.1)) && (decide (a2.1 < (Int.ofNat (List.set a2.2.1 (Int.toNat a2.1) (1073741824 : Int)).length)))) then (bif (@Nat.blt (Int.toNat a2.1) (List.set a2.2.1 (Int.toNat a2.1) (1073741824 : Int)).length) then (some ((List.set (List.set a2.2.1 (Int.toNat a2.1) (1073741824 : Int)) (Int.toNat a2.1) (0 : Int)), ())) else none) else none) else (some ((List.set a2.2.1 (Int.toNat a2.1) (1073741824 : Int)), ()))) (fun (y3 : ((@List Int) × Unit)) => (some (.inl ((IntKind.wrap Go.IntKind.i64 (a2.1 + (1 : Int))), y3))))) else none) else none) else none) else (some (.inr a2.2)))
noncomputable def r105_s1 (a0 : (@List (Int × (Bool × Unit)))) (a1 : (@List (Int × (Int × (Int × (Int × (Int × Unit))))))) (a2 : ((@List Int) × (Int × Unit))) : (Option (Sum ((@List Int) × (Int × Unit)) ((@List Int) × Unit))) :=
  (bif (decide (a2.2.1 < (Int.ofNat a1.length))) then (bif ((decide ((0 : Int) ≤ a2.2.1)) && (decide (a2.2.1 < (Int.ofNat a1.length)))) then (Option.bind (@Sp13.x108 (a0, (a1, ())) (List.getD a1 (Int.toNat a2.2.1) ((0 : Int), ((0 : Int), ((0 : Int), ((0 : Int), ((0 : Int), ())))))).1) (fun (y3 : (Int × Unit)) => (Option.bind (@Sp13.x108 (a0, (a1, ())) (List.getD a1 (Int.toNat a2.2.1) ((0 : Int), ((0 : Int), ((0 : Int), ((0 : Int), ((0 : Int), ())))))).2.1) (fun (y4 : (Int × Unit)) => (bif ((decide ((0 : Int) ≤ y4.1)) && (decide (y4.1 < (Int.ofNat a2.1.length)))) then (bif (@Nat.blt (Int.toNat y4.1) a2.1.length) then (Option.bind (bif (decide ((List.getD a2.1 (Int.toNat y4.1) (0 : Int)) < (1073741824 : Int))) then (bif ((decide ((0 : Int) ≤ y3.1)) && (decide (y3.1 < (Int.ofNat a2.1.length)))) then (bif (@Nat.blt (Int.toNat y3.1) a2.1.length) then (bif ((decide ((0 : Int) ≤ y4.1)) && (decide (y4.1 < (Int.ofNat a2.1.length)))) then (bif (@Nat.blt (Int.toNat y4.1) a2.1.length) then (bif ((decide ((0 : Int) ≤ y3.1)) && (decide (y3.1 < (Int.ofNat a2.1.length)))) then (bif (@Nat.blt (Int.toNat y3.1) a2.1.length) then (some ((List.set a2.1 (Int.toNat y3.1) (bif (decide ((IntKind.wrap Go.IntKind.i64 ((List.getD a1 (Int.toNat a2.2.1) ((0 : Int), ((0 : Int), ((0 : Int), ((0 : Int), ((0 : Int), ())))))).2.2.1 + (List.getD a2.1 (Int.toNat y4.1) (0 : Int)))) < (List.getD a2.1 (Int.toNat y3.1) (0 : Int)))) then (IntKind.wrap Go.IntKind.i64 ((List.getD a1 (Int.toNat a2.2.1) ((0 : Int), ((0 : Int), ((0 : Int), ((0 : Int), ((0 : Int), ())))))).2.2.1 + (List.getD a2.1 (Int.toNat y4.1) (0 : Int)))) else (List.getD a2.1 (Int.toNat y3.1) (0 : Int)))), ())) else none) else none) else none) else none) else none) else none) else (some (a2.1, ()))) (fun (y5 : ((@List Int) × Unit)) => (bif ((decide ((0 : Int) ≤ y3.1)) && (decide (y3.1 < (Int.ofNat y5.1.length)))) then (bif (@Nat.blt (Int.toNat y3.1) y5.1.length) then (Option.bind (bif (decide ((List.getD y5.1 (Int.toNat y3.1) (0 : Int)) < (1073741824 : Int))) then (bif ((decide ((0 : Int) ≤ y4.1)) && (decide (y4.1 < (Int.ofNat y5.1.length)))) then (bif (@Nat.blt (Int.toNat y4.1) y5.1.length) then (bif ((decide ((0 : Int) ≤ y3.1)) && (decide (y3.1 < (Int.ofNat y5.1.length)))) then (bif (@Nat.blt (Int.toNat y3.1) y5.1.length) then (bif ((decide ((0 : Int) ≤ y4.1)) && (decide (y4.1 < (Int.ofNat y5.1.length)))) then (bif (@Nat.blt (Int.toNat y4.1) y5.1.length) then (some ((List.set y5.1 (Int.toNat y4.1) (bif (decide ((IntKind.wrap Go.IntKind.i64 ((List.getD a1 (Int.toNat a2.2.1) ((0 : Int), ((0 : Int), ((0 : Int), ((0 : Int), ((0 : Int), ())))))).2.2.2.1 + (List.getD y5.1 (Int.toNat y3.1) (0 : Int)))) < (List.getD y5.1 (Int.toNat y4.1) (0 : Int)))) then (IntKind.wrap Go.IntKind.i64 ((List.getD a1 (Int.toNat a2.2.1) ((0 : Int), ((0 : Int), ((0 : Int), ((0 : Int), ((0 : Int), ())))))).2.2.2.1 + (List.getD y5.1 (Int.toNat y3.1) (0 : Int)))) else (List.getD y5.1 (Int.toNat y4.1) (0 : Int)))), ())) else none) else none) else none) else none) else none) else none) else (some y5)) (fun (y6 : ((@List Int) × Unit)) => (some (.inl (y6.1, ((IntKind.wrap Go.IntKind.i64 (a2.2.1 + (1 : Int))), ())))))) else none) else none))) else none) else none))))) else none) else (some (.inr (a2.1, ()))))
noncomputable def r105_s2 (a0 : (@List (Int × (Bool × Unit)))) (a1 : (@List (Int × (Int × (Int × (Int × (Int × Unit))))))) (a2 : (Int × ((@List Int) × Unit))) : (Option (Sum (Int × ((@List Int) × Unit)) ((@List Int) × Unit))) :=
  (bif (decide (a2.1 < (Int.ofNat a2.2.1.length))) then (Option.bind (Loop (@r105_s1 a0 a1) (a2.2.1, ((0 : Int), ()))) (fun (y3 : ((@List Int) × Unit)) => (some (.inl ((IntKind.wrap Go.IntKind.i64 (a2.1 + (1 : Int))), y3))))) else (some (.inr a2.2)))
noncomputable def r105 (a0 : (@List (Int × (Bool × Unit)))) (a1 : (@List (Int × (Int × (Int × (Int × (Int × Unit))))))) (a2 : Int) : (Option ((@List Int) × Unit)) :=
  (bif (((decide ((0 : Int) ≤ (Int.ofNat a0.length))) && (decide ((Int.ofNat a0.length) ≤ (Int.ofNat a0.length)))) && (decide (((Int.ofNat a0.length) * (8 : Int)) ≤ (140737488355328 : Int)))) then (Option.bind (Loop (@r105_s0 a0 a2) ((0 : Int), ((List.replicate (Int.toNat (Int.ofNat a0.length)) (0 : Int)), ()))) (fun (y3 : ((@List Int) × Unit)) => (Option.bind (Loop (@r105_s2 a0 a1) ((0 : Int), y3)) (fun (y4 : ((@List Int) × Unit)) => (some y4))))) else none)
noncomputable def x105 (g : To) (r : Int) : (Option ((@List Int) × Unit)) := r105 g.1 g.2.1 r
noncomputable def r109_s0 (a0 : (@List (Int × (Bool × Unit)))) (a1 : (@List Int)) (a2 : Int) (a3 : (Int × Unit)) : (Option (Sum (Int × Unit) (Bool × ((Int × Unit) × Unit)))) :=
  (bif (decide (a3.1 < (Int.ofNat a0.length))) then (bif ((decide ((0 : Int) ≤ a3.1)) && (decide (a3.1 < (Int.ofNat a0.length)))) then (bif (decide ((List.getD a0 (Int.toNat a3.1) ((0 : Int), (false, ()))).1 = a2)) then (bif ((decide ((0 : Int) ≤ a3.1)) && (decide (a3.1 < (Int.ofNat a1.length)))) then (some (.inr (true, (((List.getD a1 (Int.toNat a3.1) (0 : Int)), ()), ())))) else none) else (some (.inl ((IntKind.wrap Go.IntKind.i64 (a3.1 + (1 : Int))), ())))) else none) else (some (.inr (false, (((0 : Int), ()), ())))))
noncomputable def r109 (a0 : (@List (Int × (Bool × Unit)))) (a1 : (@List (Int × (Int × (Int × (Int × (Int × Unit))))))) (a2 : (@List Int)) (a3 : Int) : (Option (Int × Unit)) :=
  (Option.bind (Loop (@r109_s0 a0 a2 a3) ((0 : Int), ())) (fun (y4 : (Bool × ((Int × Unit) × Unit))) => (bif y4.1 then (some y4.2.1) else (some ((1073741824 : Int), ())))))
noncomputable def x109 (g : To) (d : List Int) (r : Int) : (Option (Int × Unit)) := r109 g.1 g.2.1 d r
noncomputable def r106_s0 (a0 : (@List (Int × (Bool × Unit)))) (a1 : (@List (Int × (Int × (Int × (Int × (Int × Unit))))))) (a2 : (@List Int)) (a3 : Int) (a4 : (Int × Unit)) (a5 : (Int × ((@List Int) × ((@List Int) × Unit)))) : (Option (Sum (Int × ((@List Int) × ((@List Int) × Unit))) ((@List Int) × Unit))) :=
  (bif (decide (a5.1 < (Int.ofNat a5.2.2.1.length))) then (bif ((decide ((0 : Int) ≤ a5.1)) && (decide (a5.1 < (Int.ofNat a5.2.2.1.length)))) then (bif (@Nat.blt (Int.toNat a5.1) a5.2.2.1.length) then (Option.bind (bif ((decide ((0 : Int) ≤ a5.1)) && (decide (a5.1 < (Int.ofNat a5.2.2.1.length)))) then (bif (@Nat.blt (Int.toNat a5.1) a5.2.2.1.length) then (Option.bind (@Sp13.x109 (a0, (a1, ())) a2 (List.getD a5.2.2.1 (Int.toNat a5.1) (0 : Int))) (fun (y6 : (Int × Unit)) => (bif (decide (y6.1 < (1073741824 : Int))) then (bif (decide (y6.1 < (1073741824 : Int))) then (bif (decide (y6.1 < (1073741824 : Int))) then (bif (decide (y6.1 < (1073741824 : Int))) then (bif (decide (y6.1 < (1073741824 : Int))) then (bif (decide (y6.1 < (1073741824 : Int))) then (bif ((decide ((0 : Int) ≤ a5.1)) && (decide (a5.1 < (Int.ofNat a5.2.2.1.length)))) then (bif (decide (y6.1 < (1073741824 : Int))) then (bif (@Nat.blt (Int.toNat a5.1) a5.2.2.1.length) then (bif (decide (y6.1 < (1073741824 : Int))) then (Option.bind (@Sp13.x109 (a0, (a1, ())) a2 (List.getD a5.2.2.1 (Int.toNat a5.1) (0 : Int))) (fun (y7 : (Int × Unit)) => (bif (decide (y6.1 < (1073741824 : Int))) then (bif (decide (y6.1 < (1073741824 : Int))) then (bif (decide (y6.1 < (1073741824 : Int))) then (bif (decide (y6.1 < (1073741824 : Int))) then (some (a5.2.2.1, ((decide ((IntKind.wrap Go.IntKind.i64 ((@Sp13.price a1 a3 (List.getD a5.2.2.1 (Int.toNat a5.1) (0 : Int))).1 + y7.1)) = a4.1)), ()))) else none) else none) else none) else none))) else none) else none) else none) else none) else none) else none) else none) else none) else none) else (bif (!(decide (y6.1 < (1073741824 : Int)))) then (bif (!(decide (y6.1 < (1073741824 : Int)))) then (bif (!(decide (y6.1 < (1073741824 : Int)))) then (bif (!(decide (y6.1 < (1073741824 : Int)))) then (bif (!(decide (y6.1 < (1073741824 : Int)))) then (bif (!(decide (y6.1 < (1073741824 : Int)))) then (bif (!(decide (y6.1 < (1073741824 : Int)))) then (bif (!(decide (y6.1 < (1073741824 : Int)))) then (bif (!(decide (y6.1 < (1073741824 : Int)))) then (bif (!(decide (y6.1 < (1073741824 : Int)))) then (bif (!(decide (y6.1 < (1073741824 : Int)))) then (some (a5.2.2.1, (false, ()))) else none) else none) else none) else none) else none) else none) else none) else none) else none) else none) else none)))) else none) else none) (fun (y6 : ((@List Int) × (Bool × Unit))) => (Option.bind (bif y6.2.1 then (bif ((decide ((0 : Int) ≤ a5.1)) && (decide (a5.1 < (Int.ofNat y6.1.length)))) then (bif (@Nat.blt (Int.toNat a5.1) y6.1.length) then (bif (@Nat.ble ((a5.2.1.length + 1) * 8) 140737488355328) then (some ((a5.2.1 ++ ((List.getD y6.1 (Int.toNat a5.1) (0 : Int)) :: [])), (y6.1, ()))) else none) else none) else none) else (some (a5.2.1, (y6.1, ())))) (fun (y7 : ((@List Int) × ((@List Int) × Unit))) => (some (.inl ((IntKind.wrap Go.IntKind.i64 (a5.1 + (1 : Int))), y7))))))) else none) else none) else (some (.inr (a5.2.1, ()))))
noncomputable def r106 (a0 : (@List (Int × (Bool × Unit)))) (a1 : (@List (Int × (Int × (Int × (Int × (Int × Unit))))))) (a2 : (@List Int)) (a3 : Int) : (Option ((@List Int) × Unit)) :=
  (Option.bind (@Sp13.x109 (a0, (a1, ())) a2 a3) (fun (y4 : (Int × Unit)) => (Option.bind (bif (!(decide (y4.1 = (1073741824 : Int)))) then (some ((decide (y4.1 = (0 : Int))), ())) else (some (true, ()))) (fun (y5 : (Bool × Unit)) => (bif y5.1 then (some ([], ())) else (Option.bind (Loop (@r106_s0 a0 a1 a2 a3 y4) ((0 : Int), ([], ((@Sp13.near (a0, (a1, ())) a3), ())))) (fun (y6 : ((@List Int) × Unit)) => (some y6))))))))
noncomputable def x106 (g : To) (d : List Int) (r : Int) : (Option ((@List Int) × Unit)) := r106 g.1 g.2.1 d r
noncomputable def r102_s0 (a0 : (@List (Int × (Bool × Unit)))) (a1 : (@List (Int × (Int × (Int × (Int × (Int × Unit))))))) (a2 : ((@List Int) × Unit)) (a3 : ((@List Int) × ((@List Int) × (Int × Unit)))) : (Option (Sum ((@List Int) × ((@List Int) × (Int × Unit))) ((@List Int) × ((@List Int) × Unit)))) :=
  (bif (decide (a3.2.2.1 < (Int.ofNat a2.1.length))) then (bif ((decide ((0 : Int) ≤ a3.2.2.1)) && (decide (a3.2.2.1 < (Int.ofNat a2.1.length)))) then (Option.bind (bif (@Sp13.capT (a0, (a1, ())) (List.getD a2.1 (Int.toNat a3.2.2.1) (0 : Int))) then (bif ((decide ((0 : Int) ≤ a3.2.2.1)) && (decide (a3.2.2.1 < (Int.ofNat a2.1.length)))) then (Option.bind (@Sp13.x107 a3.2.1 (List.getD a2.1 (Int.toNat a3.2.2.1) (0 : Int))) (fun (y4 : ((@List Int) × Unit)) => (some (y4.1, (a3.1, ()))))) else none) else (bif ((decide ((0 : Int) ≤ a3.2.2.1)) && (decide (a3.2.2.1 < (Int.ofNat a2.1.length)))) then (Option.bind (bif (!(@Sp13.has a3.1 (List.getD a2.1 (Int.toNat a3.2.2.1) (0 : Int)))) then (bif ((decide ((0 : Int) ≤ a3.2.2.1)) && (decide (a3.2.2.1 < (Int.ofNat a2.1.length)))) then (bif (@Nat.ble ((a3.1.length + 1) * 8) 140737488355328) then (some ((a3.1 ++ ((List.getD a2.1 (Int.toNat a3.2.2.1) (0 : Int)) :: [])), ())) else none) else none) else (some (a3.1, ()))) (fun (y4 : ((@List Int) × Unit)) => (some (a3.2.1, y4)))) else none)) (fun (y4 : ((@List Int) × ((@List Int) × Unit))) => (some (.inl (y4.2.1, (y4.1, ((IntKind.wrap Go.IntKind.i64 (a3.2.2.1 + (1 : Int))), ()))))))) else none) else (some (.inr (a3.1, (a3.2.1, ())))))
noncomputable def r102_s1 (a0 : (@List (Int × (Bool × Unit)))) (a1 : (@List (Int × (Int × (Int × (Int × (Int × Unit))))))) (a2 : ((@List Int) × Unit)) (a3 : (Int × ((@List Int) × ((@List Int) × Unit)))) : (Option (Sum (Int × ((@List Int) × ((@List Int) × Unit))) ((@List Int) × Unit))) :=
  (bif (decide (a3.1 < (Int.ofNat a3.2.2.1.length))) then (bif ((decide ((0 : Int) ≤ a3.1)) && (decide (a3.1 < (Int.ofNat a3.2.2.1.length)))) then (bif (@Nat.blt (Int.toNat a3.1) a3.2.2.1.length) then (Option.bind (@Sp13.x106 (a0, (a1, ())) a2.1 (List.getD a3.2.2.1 (Int.toNat a3.1) (0 : Int))) (fun (y4 : ((@List Int) × Unit)) => (Option.bind (Loop (@r102_s0 a0 a1 y4) (a3.2.2.1, (a3.2.1, ((0 : Int), ())))) (fun (y5 : ((@List Int) × ((@List Int) × Unit))) => (some (.inl ((IntKind.wrap Go.IntKind.i64 (a3.1 + (1 : Int))), (y5.2.1, (y5.1, ()))))))))) else none) else none) else (some (.inr (a3.2.1, ()))))
noncomputable def r102 (a0 : (@List (Int × (Bool × Unit)))) (a1 : (@List (Int × (Int × (Int × (Int × (Int × Unit))))))) (a2 : Int) (a3 : Int) : (Option ((@List Int) × Unit)) :=
  (Option.bind (bif (!(!(@Sp13.hasT (a0, (a1, ())) a2))) then (bif (!(!(@Sp13.hasT (a0, (a1, ())) a3))) then (some ((decide (a2 = a3)), ())) else (some (true, ()))) else (some (true, ()))) (fun (y4 : (Bool × Unit)) => (bif y4.1 then (some ([], ())) else (Option.bind (@Sp13.x105 (a0, (a1, ())) a3) (fun (y5 : ((@List Int) × Unit)) => (Option.bind (Loop (@r102_s1 a0 a1 y5) ((0 : Int), ([], ((a2 :: []), ())))) (fun (y6 : ((@List Int) × Unit)) => (some y6))))))))
noncomputable def x102 (g : To) (a b : Int) : (Option ((@List Int) × Unit)) := r102 g.1 g.2.1 a b
noncomputable def r87_s0 (a0 : (@List (Int × (Bool × Unit)))) (a1 : (@List (Int × (Int × (Int × (Int × (Int × Unit))))))) (a2 : (@List (Int × (Int × Unit)))) (a3 : Int) (a4 : ((Int × (Int × (Int × ((@List (Int × ((@List Int) × Unit))) × Unit)))) × (Int × Unit))) : (Option (Sum ((Int × (Int × (Int × ((@List (Int × ((@List Int) × Unit))) × Unit)))) × (Int × Unit)) ((Int × (Int × (Int × ((@List (Int × ((@List Int) × Unit))) × Unit)))) × Unit))) :=
  (bif (decide (a4.2.1 < (Int.ofNat a2.length))) then (bif ((decide ((0 : Int) ≤ a4.2.1)) && (decide (a4.2.1 < (Int.ofNat a2.length)))) then (bif ((decide ((0 : Int) ≤ a4.2.1)) && (decide (a4.2.1 < (Int.ofNat a2.length)))) then (Option.bind (bif (decide ((List.getD a2 (Int.toNat a4.2.1) ((0 : Int), ((0 : Int), ()))).1 = a3)) then (some (((List.getD a2 (Int.toNat a4.2.1) ((0 : Int), ((0 : Int), ()))).2.1, ((a3 :: []), ())), ())) else (bif ((decide ((0 : Int) ≤ a4.2.1)) && (decide (a4.2.1 < (Int.ofNat a2.length)))) then (Option.bind (bif (@Sp13.capT (a0, (a1, ())) (List.getD a2 (Int.toNat a4.2.1) ((0 : Int), ((0 : Int), ()))).1) then (bif ((decide ((0 : Int) ≤ a4.2.1)) && (decide (a4.2.1 < (Int.ofNat a2.length)))) then (Option.bind (@Sp13.x102 (a0, (a1, ())) a3 (List.getD a2 (Int.toNat a4.2.1) ((0 : Int), ((0 : Int), ()))).1) (fun (y5 : ((@List Int) × Unit)) => (some (((List.getD a2 (Int.toNat a4.2.1) ((0 : Int), ((0 : Int), ()))).2.1, y5), ())))) else none) else (some (((List.getD a2 (Int.toNat a4.2.1) ((0 : Int), ((0 : Int), ()))).2.1, ([], ())), ()))) (fun (y5 : ((Int × ((@List Int) × Unit)) × Unit)) => (some y5))) else none)) (fun (y5 : ((Int × ((@List Int) × Unit)) × Unit)) => (bif (@Nat.ble ((a4.1.2.2.2.1.length + 1) * 32) 140737488355328) then (some (.inl ((a4.1.1, (a4.1.2.1, (a4.1.2.2.1, ((a4.1.2.2.2.1 ++ (y5.1 :: [])), ())))), ((IntKind.wrap Go.IntKind.i64 (a4.2.1 + (1 : Int))), ())))) else none))) else none) else none) else (some (.inr (a4.1, ()))))
noncomputable def r87 (a0 : (@List (Int × (Bool × Unit)))) (a1 : (@List (Int × (Int × (Int × (Int × (Int × Unit))))))) (a2 : Int) (a3 : Int) (a4 : (@List (Int × (Int × Unit)))) (a5 : Int) : (Option ((Int × (Int × (Int × ((@List (Int × ((@List Int) × Unit))) × Unit)))) × Unit)) :=
  (Option.bind (Loop (@r87_s0 a0 a1 a4 a5) ((a5, (a2, (a3, ([], ())))), ((0 : Int), ()))) (fun (y6 : ((Int × (Int × (Int × ((@List (Int × ((@List Int) × Unit))) × Unit)))) × Unit)) => (some y6)))
noncomputable def x87 (g : To) (p : Pn) (r : Int) : (Option ((Int × (Int × (Int × ((@List (Int × ((@List Int) × Unit))) × Unit)))) × Unit)) := r87 g.1 g.2.1 p.1 p.2.1 p.2.2.1 r
noncomputable def r57_s0 (a0 : (@List (Int × (Bool × Unit)))) (a1 : (@List (Int × (Int × (Int × (Int × (Int × Unit))))))) (a2 : Int) (a3 : Int) (a4 : (@List (Int × (Int × Unit)))) (a5 : ((@List (Int × (Int × (Int × ((@List (Int × ((@List Int) × Unit))) × Unit))))) × (Int × Unit))) : (Option (Sum ((@List (Int × (Int × (Int × ((@List (Int × ((@List Int) × Unit))) × Unit))))) × (Int × Unit)) ((@List (Int × (Int × (Int × ((@List (Int × ((@List Int) × Unit))) × Unit))))) × Unit))) :=
  (bif (decide (a5.2.1 < (Int.ofNat a0.length))) then (bif ((decide ((0 : Int) ≤ a5.2.1)) && (decide (a5.2.1 < (Int.ofNat a0.length)))) then (Option.bind (bif (List.getD a0 (Int.toNat a5.2.1) ((0 : Int), (false, ()))).2.1 then (bif ((decide ((0 : Int) ≤ a5.2.1)) && (decide (a5.2.1 < (Int.ofNat a0.length)))) then (Option.bind (@Sp13.x87 (a0, (a1, ())) (a2, (a3, (a4, ()))) (List.getD a0 (Int.toNat a5.2.1) ((0 : Int), (false, ()))).1) (fun (y6 : ((Int × (Int × (Int × ((@List (Int × ((@List Int) × Unit))) × Unit)))) × Unit)) => (bif (@Nat.ble ((a5.1.length + 1) * 48) 140737488355328) then (some ((a5.1 ++ (y6.1 :: [])), ())) else none))) else none) else (some (a5.1, ()))) (fun (y6 : ((@List (Int × (Int × (Int × ((@List (Int × ((@List Int) × Unit))) × Unit))))) × Unit)) => (some (.inl (y6.1, ((IntKind.wrap Go.IntKind.i64 (a5.2.1 + (1 : Int))), ())))))) else none) else (some (.inr (a5.1, ()))))
noncomputable def r57 (a0 : (@List (Int × (Bool × Unit)))) (a1 : (@List (Int × (Int × (Int × (Int × (Int × Unit))))))) (a2 : Int) (a3 : Int) (a4 : (@List (Int × (Int × Unit)))) : (Option (((@List (Int × (Int × (Int × ((@List (Int × ((@List Int) × Unit))) × Unit))))) × (Int × Unit)) × Unit)) :=
  (Option.bind (bif (!(!(decide ((@Sp13.chkT (a0, (a1, ()))) = (0 : Int))))) then (some ((!(@Sp13.validP (a2, (a3, (a4, ()))))), ())) else (some (true, ()))) (fun (y5 : (Bool × Unit)) => (bif y5.1 then (some (([], ((1 : Int), ())), ())) else (Option.bind (Loop (@r57_s0 a0 a1 a2 a3 a4) ([], ((0 : Int), ()))) (fun (y6 : ((@List (Int × (Int × (Int × ((@List (Int × ((@List Int) × Unit))) × Unit))))) × Unit)) => (some ((y6.1, ((0 : Int), ())), ())))))))
noncomputable def x57 (g : To) (p : Pn) : (Option (((@List (Int × (Int × (Int × ((@List (Int × ((@List Int) × Unit))) × Unit))))) × (Int × Unit)) × Unit)) := r57 g.1 g.2.1 p.1 p.2.1 p.2.2.1
noncomputable def r58_s0 (a0 : (@List (Int × ((@List Int) × Unit)))) (a1 : (Int × ((@List (Int × ((@List Int) × Unit))) × Unit))) : (Option (Sum (Int × ((@List (Int × ((@List Int) × Unit))) × Unit)) ((@List (Int × ((@List Int) × Unit))) × Unit))) :=
  (bif (decide (a1.1 < (Int.ofNat a0.length))) then (bif ((decide ((0 : Int) ≤ a1.1)) && (decide (a1.1 < (Int.ofNat a0.length)))) then (bif ((decide ((0 : Int) ≤ a1.1)) && (decide (a1.1 < (Int.ofNat a0.length)))) then (bif (@Nat.ble ((0 + (List.getD a0 (Int.toNat a1.1) ((0 : Int), ([], ()))).2.1.length) * 8) 140737488355328) then (bif (@Nat.ble ((a1.2.1.length + 1) * 32) 140737488355328) then (some (.inl ((IntKind.wrap Go.IntKind.i64 (a1.1 + (1 : Int))), ((a1.2.1 ++ (((List.getD a0 (Int.toNat a1.1) ((0 : Int), ([], ()))).1, (([] ++ (List.getD a0 (Int.toNat a1.1) ((0 : Int), ([], ()))).2.1), ())) :: [])), ())))) else none) else none) else none) else none) else (some (.inr a1.2)))
noncomputable def r58 (a0 : Int) (a1 : Int) (a2 : Int) (a3 : (@List (Int × ((@List Int) × Unit)))) : (Option ((Int × (Int × (Int × ((@List (Int × ((@List Int) × Unit))) × Unit)))) × Unit)) :=
  (Option.bind (Loop (@r58_s0 a3) ((0 : Int), ([], ()))) (fun (y4 : ((@List (Int × ((@List Int) × Unit))) × Unit)) => (some ((a0, (a1, (a2, y4))), ()))))
noncomputable def x58 (t : Tb) : (Option ((Int × (Int × (Int × ((@List (Int × ((@List Int) × Unit))) × Unit)))) × Unit)) := r58 t.1 t.2.1 t.2.2.1 t.2.2.2.1
noncomputable def r26 (a0 : (@List Int)) (a1 : Int) (a2 : Int) : (Option ((Int × (Int × (Int × ((@List (Int × ((@List Int) × Unit))) × Unit)))) × ((@List Int) × (Int × Unit)))) :=
  (Option.bind (@Sp13.on (((@List (Int × (Bool × Unit))) × ((@List (Int × (Int × (Int × (Int × (Int × Unit)))))) × Unit)) × ((@List Int) × (Int × Unit))) ((@Sp13.wf (a0, (a1, ()))) && (@Sp13.inside (6 : Int) (1 : Int) (50 : Int))) (@Sp13.mixed (a0, (a1, ())) (6 : Int))) (fun (y3 : (((@List (Int × (Bool × Unit))) × ((@List (Int × (Int × (Int × (Int × (Int × Unit)))))) × Unit)) × ((@List Int) × (Int × Unit)))) => (Option.bind (@Sp13.on ((Int × (Int × ((@List (Int × (Int × Unit))) × Unit))) × ((@List Int) × (Int × Unit))) (((@Sp13.wf y3.2) && (@Sp13.small (0 : Int))) && (decide (y3.1.1.length ≤ 1000))) (@Sp13.planT y3.2 y3.1 (0 : Int))) (fun (y4 : ((Int × (Int × ((@List (Int × (Int × Unit))) × Unit))) × ((@List Int) × (Int × Unit)))) => (Option.bind (@Sp13.x57 y3.1 y4.1) (fun (y5 : (((@List (Int × (Int × (Int × ((@List (Int × ((@List Int) × Unit))) × Unit))))) × (Int × Unit)) × Unit)) => (bif (decide ((Int.ofNat y5.1.1.length) = (0 : Int))) then (some (((1 : Int), ((0 : Int), ((8 : Int), ([], ())))), y4.2)) else (Option.bind (@Sp13.on (Int × ((@List Int) × (Int × Unit))) (@Sp13.wf y4.2) (@Sp13.next y4.2 (Int.ofNat y5.1.1.length))) (fun (y6 : (Int × ((@List Int) × (Int × Unit)))) => (bif ((decide ((0 : Int) ≤ y6.1)) && (decide (y6.1 < (Int.ofNat y5.1.1.length)))) then (Option.bind (@Sp13.x58 (List.getD y5.1.1 (Int.toNat y6.1) ((0 : Int), ((0 : Int), ((0 : Int), ([], ())))))) (fun (y7 : ((Int × (Int × (Int × ((@List (Int × ((@List Int) × Unit))) × Unit)))) × Unit)) => (Option.bind (bif (decide (a2 > (0 : Int))) then (Option.bind (@Sp13.on (Bool × ((@List Int) × (Int × Unit))) ((@Sp13.wf y6.2) && (@Sp13.small a2)) (@Sp13.one y6.2 a2)) (fun (y8 : (Bool × ((@List Int) × (Int × Unit)))) => (some (y8.2, (y8.1, ()))))) else (some (y6.2, (false, ())))) (fun (y8 : (((@List Int) × (Int × Unit)) × (Bool × Unit))) => (Option.bind (bif y8.2.1 then none else (some (y7.1, (y8.1, ())))) (fun (y9 : ((Int × (Int × (Int × ((@List (Int × ((@List Int) × Unit))) × Unit)))) × (((@List Int) × (Int × Unit)) × Unit))) => (some (y9.1, y9.2.1)))))))) else none))))))))))
noncomputable def x26 (t : Tp) (n : Int) : (Option ((Int × (Int × (Int × ((@List (Int × ((@List Int) × Unit))) × Unit)))) × ((@List Int) × (Int × Unit)))) := r26 t.1 t.2.1 n
end Sp13

namespace Go.Abs.C13
open Go Go.Abs
noncomputable section
abbrev tape : List Lf := [.sl 0 (.int .i64), .int .i64]
abbrev edT : Ty := .st 16 (.cons (.int .i64) (.cons (.int .i64) .unit))
abbrev rtT : Ty := .st 16 (.cons (.int .i64) (.cons .bool .unit))
abbrev lkT : Ty := .st 40 (.cons (.int .i64) (.cons (.int .i64) (.cons (.int .i64) (.cons (.int .i64) (.cons (.int .i64) .unit)))))
abbrev pnl : List Lf := [.int .i64, .int .i64, .sl 0 edT]
abbrev tol : List Lf := [.sl 0 rtT, .sl 0 lkT]
abbrev togl : List Lf := [.sl 2 rtT, .sl 2 lkT]
abbrev sbT : Ty := .st 16 (.cons (.int .i64) (.cons (.int .u64) .unit))
abbrev pkl : List Lf := [.int .i64, .int .i64, .int .i64, .int .i64, .int .i64, .int .i64, .int .i64, .int .i64, .int .u64, .str]
abbrev rwT : Ty := .st 32 (.cons (.int .i64) (.cons (.sl (.int .i64)) .unit))
abbrev rwl : List Lf := [.int .i64, .sl 0 (.int .i64)]
abbrev tbl : List Lf := [.int .i64, .int .i64, .int .i64, .sl 0 rwT]
abbrev tbgl : List Lf := [.int .i64, .int .i64, .int .i64, .sl 2 rwT]
abbrev tbF : Ty := .cons (.int .i64) (.cons (.int .i64) (.cons (.int .i64) (.cons (.sl rwT) .unit)))
abbrev tbT : Ty := .st 48 tbF
abbrev pkT : Ty := .st 88 (.cons (.int .i64) (.cons (.int .i64) (.cons (.int .i64) (.cons (.int .i64) (.cons (.int .i64) (.cons (.int .i64) (.cons (.int .i64) (.cons (.int .i64) (.cons (.int .u64) (.cons .str .unit))))))))))
abbrev frT : Ty := .st 112 (.cons (.sl (.int .i64)) (.cons pkT .unit))
abbrev cpT : Ty := .st 120 (.cons (.int .i64) (.cons frT .unit))
abbrev dlT : Ty := .st 96 (.cons (.int .i64) (.cons pkT .unit))
abbrev ocl : List Lf := [.int .u64, .int .u64, .sl 0 cpT]
abbrev i : Sh := .lf (.int .i64)
abbrev u8 : Sh := .lf (.int .u8)
abbrev b : Sh := .lf .bool
abbrev ls : Sh := .lf (.sl 0 (.int .i64))
abbrev lso : Sh := .lf (.sl 2 (.int .i64))
abbrev lks : Sh := .lf (.sl 0 lkT)
abbrev lko : Sh := .lf (.sl 2 lkT)
abbrev pn : Sh := .agg pnl
abbrev tpo : Sh := .agg tol
abbrev tpg : Sh := .agg togl
abbrev cnt : Sh := .lf (.av .i64)
abbrev u : Sh := .lf (.int .u64)
abbrev lb : Sh := .lf (.sl 0 sbT)
abbrev st : Sh := .lf .str
abbrev p : Sh := .agg pkl
abbrev rww : Sh := .agg rwl
abbrev tbw : Sh := .agg tbl
abbrev tbg : Sh := .agg tbgl
abbrev lrw : Sh := .lf (.sl 0 rwT)
abbrev k92 : Sh := .lf (.cst (.fnc 92))
abbrev k66 : Sh := .lf (.cst (.fnc 66))
abbrev k67 : Sh := .lf (.cst (.fnc 67))
abbrev vTb : Sh := .lf (.vp tbF)
abbrev kl69 : Sh := .lf (.clo 69 tbF)
abbrev oc : Sh := .agg ocl
abbrev ldl : Sh := .lf (.sl 0 dlT)
abbrev ltb : Sh := .lf (.sl 0 tbT)
def c8 : Con := { hasP := false, pre := [], ps := [ls], rs := (.newp tape), post := [], F := fun x => some (Sp13.tape x.2.1, ()) }
def c83 : Con := { hasP := false, pre := [], ps := [i, i], rs := (.one b), post := [], F := fun x => some (Sp13.inside x.2.1 0 x.2.2.1, ()) }
def c17 : Con := { hasP := false, pre := [], ps := [i], rs := (.one u), post := [], F := fun x => some (Sp13.Bt.bit1 x.2.1, ()) }
def c80 : Con := { hasP := false, pre := [], ps := [i], rs := (.one b), post := [], F := fun x => some (Sp13.vlen x.2.1, ()) }
def c54 : Con := { hasP := false, pre := [], ps := [i], rs := (.one u), post := [], F := fun x => some (Sp13.Bt.full x.2.1, ()) }
def c84 : Con := { hasP := false, pre := [], ps := [u, i], rs := (.one b), post := [], F := fun x => some (Sp13.validB x.2.1 x.2.2.1, ()) }
def c46 : Con := { hasP := false, pre := [], ps := [p], rs := (.one b), post := [], F := fun x => some (Sp13.validK x.2.1, ()) }
def c48 : Con := { hasP := false, pre := [], ps := [u, i], rs := (.one b), post := [], F := fun x => some (Sp13.Bt.has x.2.1 x.2.2.1, ()) }
def c16 : Con := { hasP := false, pre := [], ps := [u], rs := (.one ls), post := [], F := fun x => some (Sp13.Bt.list x.2.1, ()) }
def c18 : Con := { hasP := false, pre := [], ps := [p, i], rs := (.one p), post := [], F := fun x => some (Sp13.only x.2.1 x.2.2.1, ()) }
def c50 : Con := { hasP := false, pre := [], ps := [i, i], rs := (.one i), post := [], F := fun x => some (Sp13.cut x.2.1 x.2.2.1, ()) }
def c51 : Con := { hasP := true, pre := tape, ps := [], rs := (.one i), post := tape, F := fun x => Sp13.on (Sp13.wf x.1) (Sp13.raw x.1) }
def c20 : Con := { hasP := true, pre := tape, ps := [i], rs := (.one i), post := tape, F := fun x => Sp13.on (Sp13.wf x.1) (Sp13.next x.1 x.2.1) }
def c49 : Con := { hasP := true, pre := tape, ps := [i, i], rs := (.one i), post := tape, F := fun x => Sp13.on (Sp13.wf x.1 && Sp13.small x.2.1 && Sp13.small x.2.2.1) (Sp13.range x.1 x.2.1 x.2.2.1) }
def c19 : Con := { hasP := true, pre := tape, ps := [i], rs := (.one st), post := tape, F := fun x => Sp13.on (Sp13.wf x.1 && decide (0 ≤ x.2.1) && decide (x.2.1 ≤ 1000)) (Sp13.text x.1 x.2.1) }
def c21 : Con := { hasP := false, pre := [], ps := [ls, i], rs := (.one b), post := [], F := fun x => some (Sp13.has x.2.1 x.2.2.1, ()) }
def c24 : Con := { hasP := true, pre := tape, ps := [i], rs := (.one u), post := tape, F := fun x => Sp13.on (Sp13.wf x.1) (Sp13.Bt.bits x.1 x.2.1) }
def c31 : Con := { hasP := true, pre := tape, ps := [ls], rs := (.one i), post := tape, F := fun x => Sp13.on (Sp13.wf x.1 && decide (0 < x.2.1.length) && decide (x.2.1.length ≤ 1000)) (Sp13.pick x.1 x.2.1) }
def c33 : Con := { hasP := true, pre := tape, ps := [i], rs := (.one b), post := tape, F := fun x => Sp13.on (Sp13.wf x.1 && Sp13.small x.2.1) (Sp13.one x.1 x.2.1) }
def c52 : Con := { hasP := true, pre := tape, ps := [], rs := (.one i), post := tape, F := fun x => Sp13.on (Sp13.wf x.1) (Sp13.length x.1) }
def c53 : Con := { hasP := true, pre := tape, ps := [], rs := (.one i), post := tape, F := fun x => Sp13.on (Sp13.wf x.1) (Sp13.wild x.1) }
def c23 : Con := { hasP := true, pre := tape, ps := [i], rs := (.one p), post := tape, F := fun x => Sp13.on (Sp13.wf x.1 && Sp13.small x.2.1) (Sp13.packet x.1 x.2.1) }
def c88 : Con := { hasP := false, pre := [], ps := [lks], rs := (.one lko), post := [], F := fun x => Sp13.on (decide (x.2.1.length ≤ 10000)) (Sp13.ord x.2.1, ()) }
def c60 : Con := { hasP := true, pre := tape, ps := [i, i], rs := (.one tpg), post := tape, F := fun x => Sp13.on (Sp13.wf x.1 && Sp13.inside x.2.1 1 50 && Sp13.small x.2.2.1) (Sp13.topo x.1 x.2.1 x.2.2.1) }
def c28 : Con := { hasP := true, pre := tape, ps := [i], rs := (.one tpg), post := tape, F := fun x => Sp13.on (Sp13.wf x.1 && Sp13.inside x.2.1 1 50) (Sp13.mixed x.1 x.2.1) }
def c61 : Con := { hasP := true, pre := tape, ps := [i], rs := (.one lso), post := tape, F := fun x => Sp13.on (Sp13.wf x.1 && Sp13.inside x.2.1 0 1000) (Sp13.order x.1 x.2.1.toNat) }
def c29 : Con := { hasP := true, pre := tape, ps := [tpo, i], rs := (.one pn), post := tape, F := fun x => Sp13.on (Sp13.wf x.1 && Sp13.small x.2.2.1 && decide (x.2.1.1.length ≤ 1000)) (Sp13.planT x.1 x.2.1 x.2.2.1) }
def c71 : Con := { hasP := false, pre := [], ps := [i, i], rs := (.one b), post := [], F := fun x => some (Sp13.inside x.2.1 0 x.2.2.1, ()) }
def c64 : Con := { hasP := false, pre := [], ps := [i], rs := (.one b), post := [], F := fun x => some (Sp13.vlen x.2.1, ()) }
def c94 : Con := { hasP := false, pre := [], ps := [i], rs := (.one u), post := [], F := fun x => some (Sp13.Bt.full x.2.1, ()) }
def c72 : Con := { hasP := false, pre := [], ps := [u, i], rs := (.one b), post := [], F := fun x => some (Sp13.validB x.2.1 x.2.2.1, ()) }
def c35 : Con := { hasP := false, pre := [], ps := [p], rs := (.one b), post := [], F := fun x => some (Sp13.validK x.2.1, ()) }
def c36 : Con := { hasP := false, pre := [], ps := [p], rs := (.one i), post := [], F := fun x => some (Sp13.plane x.2.1, ()) }
def c73 : Con := { hasP := false, pre := [], ps := [u], rs := (.one i), post := [], F := fun x => Sp13.on (!decide (x.2.1 = 0)) (Sp13.Bt.nth x.2.1 0, ()) }
def c37 : Con := { hasP := false, pre := [], ps := [u], rs := (.one i), post := [], F := fun x => some (Sp13.Bt.nth x.2.1 0, ()) }
def c74 : Con := { hasP := false, pre := [], ps := [i, i, i], rs := (.one b), post := [], F := fun x => some (Sp13.inside x.2.1 x.2.2.1 x.2.2.2.1, ()) }
def c38 : Con := { hasP := false, pre := [], ps := [i, i, i], rs := (.tup [i, b]), post := [], F := fun x => some (Sp13.at_ x.2.1 x.2.2.1 x.2.2.2.1, ()) }
def c41 : Con := { hasP := false, pre := [], ps := [p, u], rs := (.tup [p, b]), post := [], F := fun x => some (Sp13.masked x.2.1 x.2.2.1, ()) }
def c55 : Con := { hasP := false, pre := [], ps := [u], rs := (.one ls), post := [], F := fun x => some (Sp13.Bt.list x.2.1, ()) }
def c56 : Con := { hasP := false, pre := [], ps := [p, i], rs := (.one p), post := [], F := fun x => some (Sp13.only x.2.1 x.2.2.1, ()) }
def c89 : Con := { hasP := false, pre := [], ps := [i, i, i], rs := (.one b), post := [], F := fun x => some (Sp13.inside x.2.1 x.2.2.1 x.2.2.2.1, ()) }
def c93 : Con := { hasP := false, pre := [], ps := [ls, i], rs := (.one i), post := [], F := fun x => some (Sp13.idx (fun y => decide (x.2.2.1 = y)) x.2.1, ()) }
def c70 : Con := { hasP := false, pre := [], ps := [ls, i], rs := (.one b), post := [], F := fun x => some (x.2.1.any fun y => decide (x.2.2.1 = y), ()) }
def c98 : Con := { hasP := false, pre := [], ps := [i], rs := (.one b), post := [], F := fun x => some (Sp13.inside x.2.1 1 1000, ()) }
def c99 : Con := { hasP := false, pre := [], ps := [tpo, i], rs := (.one b), post := [], F := fun x => some (Sp13.hasR x.2.1.1 x.2.2.1, ()) }
def c85 : Con := { hasP := false, pre := [], ps := [tpo], rs := (.one i), post := [], F := fun x => some (Sp13.chkT x.2.1, ()) }
def c100 : Con := { hasP := false, pre := [], ps := [ls], rs := (.one b), post := [], F := fun x => some (Sp13.repeats x.2.1, ()) }
def c86 : Con := { hasP := false, pre := [], ps := [pn], rs := (.one b), post := [], F := fun x => some (Sp13.validP x.2.1, ()) }
def c96 : Con := { hasP := false, pre := [], ps := [i, i], rs := (.tup [i, i, b]), post := [], F := fun x => some (Sp13.place x.2.1 x.2.2.1, ()) }
def c101 : Con := { hasP := false, pre := [], ps := [tpo, i], rs := (.one b), post := [], F := fun x => some (Sp13.capT x.2.1 x.2.2.1, ()) }
def c104 : Con := { hasP := false, pre := [], ps := [tpo, i], rs := (.one b), post := [], F := fun x => some (Sp13.hasT x.2.1 x.2.2.1, ()) }
def c111 : Con := { hasP := false, pre := [], ps := [tpo, i, i], rs := (.tup [i, b]), post := [], F := fun x => some (Sp13.price x.2.1.2.1 x.2.2.1 x.2.2.2.1, ()) }
def c110 : Con := { hasP := false, pre := [], ps := [tpo, i], rs := (.one lso), post := [], F := fun x => some (Sp13.near x.2.1 x.2.2.1, ()) }
def c63 : Con := { hasP := false, pre := [], ps := [i, i, i], rs := (.one b), post := [], F := fun x => some (Sp13.inside x.2.1 x.2.2.1 x.2.2.2.1, ()) }
def c92 : Con := { hasP := false, pre := [], ps := [i], rs := (.one b), post := [], F := fun x => some (!Sp13.inside x.2.1 1 99, ()) }
def c103 : Con := { hasP := false, pre := [], ps := [ls, k92], rs := (.one i), post := [], F := fun x => some (Sp13.idx (fun n => !Sp13.inside n 1 99) x.2.1, ()) }
def c91 : Con := { hasP := false, pre := [], ps := [ls, k92], rs := (.one b), post := [], F := fun x => some (x.2.1.any (fun n => !Sp13.inside n 1 99), ()) }
def c66 : Con := { hasP := false, pre := [], ps := [rww], rs := (.one b), post := [], F := fun x => some (Sp13.badW x.2.1, ()) }
def c67 : Con := { hasP := false, pre := [], ps := [rww], rs := (.one b), post := [], F := fun x => some (decide (24 < x.2.1.2.1.length), ()) }
def c69 : Con := { hasP := false, pre := [], ps := [rww, vTb], rs := (.one b), post := [], F := fun x => some (Sp13.selfW x.2.2.1.1 x.2.1, ()) }
def c90 : Con := { hasP := false, pre := [], ps := [lrw, k66], rs := (.one i), post := [], F := fun x => some (Sp13.idx Sp13.badW x.2.1, ()) }
def c65 : Con := { hasP := false, pre := [], ps := [lrw, k66], rs := (.one b), post := [], F := fun x => some (x.2.1.any Sp13.badW, ()) }
def c90v : Con := { hasP := false, pre := [], ps := [lrw, k67], rs := (.one i), post := [], F := fun x => some (Sp13.idx (fun r => decide (24 < r.2.1.length)) x.2.1, ()) }
def c65w1 : Con := { hasP := false, pre := [], ps := [lrw, k67], rs := (.one b), post := [], F := fun x => some (x.2.1.any (fun r => decide (24 < r.2.1.length)), ()) }
def c90x : Con := { hasP := false, pre := [], ps := [lrw, kl69], rs := (.one i), post := [], F := fun x => some (Sp13.idx (Sp13.selfW x.2.2.1.1) x.2.1, ()) }
def c65w2 : Con := { hasP := false, pre := [], ps := [lrw, kl69], rs := (.one b), post := [], F := fun x => some (x.2.1.any (Sp13.selfW x.2.2.1.1), ()) }
def c68 : Con := { hasP := false, pre := [], ps := [ls], rs := (.one b), post := [], F := fun x => some (Sp13.upI x.2.1, ()) }
def c34 : Con := { hasP := false, pre := [], ps := [tbw], rs := (.one i), post := [], F := fun x => some (Sp13.chkB x.2.1, ()) }
def c75 : Con := { hasP := false, pre := [], ps := [tbw, i, i], rs := (.one b), post := [], F := fun x => some (Sp13.validM x.2.1 x.2.2.1 x.2.2.2.1, ()) }
def c95 : Con := { hasP := false, pre := [], ps := [ls], rs := (.one lso), post := [], F := fun x => some (x.2.1, ()) }
def c76 : Con := { hasP := false, pre := [], ps := [tbw, i], rs := (.tup [rww, b]), post := [], F := fun x => some (Sp13.findW x.2.1 x.2.2.1, ()) }
def c77 : Con := { hasP := false, pre := [], ps := [rww, i], rs := (.one i), post := [], F := fun x => Sp13.on (decide (0 ≤ x.2.2.1)) (Sp13.nextW x.2.1 x.2.2.1, ()) }
def c39 : Con := { hasP := false, pre := [], ps := [tbw, i, i], rs := (.one i), post := [], F := fun x => some (bif Sp13.validM x.2.1 x.2.2.2.1 0 then Sp13.nextW (Sp13.findW x.2.1 x.2.2.1).1 x.2.2.2.1 else 0, ()) }
def c25 : Con := { hasP := false, pre := [], ps := [tbw, i, oc, p], rs := (.one ldl), post := [], F := fun x => some (Sp13.local1 x.2.2.1 x.2.2.2.1 x.2.2.2.2.1, ()) }
def c27 : Con := { hasP := false, pre := [], ps := [i, oc, p], rs := (.one ldl), post := [], F := fun x => some (Sp13.local1 x.2.1 x.2.2.1 x.2.2.2.1, ()) }
def c40 : Con := { hasP := false, pre := [], ps := [tbw, i, i, i], rs := (.one u), post := [], F := fun x => some (Sp13.maskF x.2.1 x.2.2.1 x.2.2.2.1 x.2.2.2.2.1, ()) }
def c10 : Con := { hasP := false, pre := [], ps := [tbw, p], rs := (.tup [oc, i]), post := [], F := fun x => some (Sp13.fwd x.2.1 x.2.2.1, ()) }
def c42 : Con := { hasP := false, pre := [], ps := [], rs := (.one tbg), post := [], F := fun x => some (Sp13.t0, ()) }
def c11 : Con := { hasP := false, pre := [], ps := [], rs := (.one b), post := [], F := fun x => some (true, ()) }
def c107 : Con := { hasP := false, pre := [], ps := [ls, i], rs := (.one ls), post := [], F := fun x => Sp13.x107 x.2.1 x.2.2.1 }
def c108 : Con := { hasP := false, pre := [], ps := [tpo, i], rs := (.one i), post := [], F := fun x => Sp13.x108 x.2.1 x.2.2.1 }
def c105 : Con := { hasP := false, pre := [], ps := [tpo, i], rs := (.one ls), post := [], F := fun x => Sp13.x105 x.2.1 x.2.2.1 }
def c109 : Con := { hasP := false, pre := [], ps := [tpo, ls, i], rs := (.one i), post := [], F := fun x => Sp13.x109 x.2.1 x.2.2.1 x.2.2.2.1 }
def c106 : Con := { hasP := false, pre := [], ps := [tpo, ls, i], rs := (.one ls), post := [], F := fun x => Sp13.x106 x.2.1 x.2.2.1 x.2.2.2.1 }
def c102 : Con := { hasP := false, pre := [], ps := [tpo, i, i], rs := (.one ls), post := [], F := fun x => Sp13.x102 x.2.1 x.2.2.1 x.2.2.2.1 }
def c87 : Con := { hasP := false, pre := [], ps := [tpo, pn, i], rs := (.one tbw), post := [], F := fun x => Sp13.x87 x.2.1 x.2.2.1 x.2.2.2.1 }
def c57 : Con := { hasP := false, pre := [], ps := [tpo, pn], rs := (.tup [ltb, i]), post := [], F := fun x => Sp13.x57 x.2.1 x.2.2.1 }
def c58 : Con := { hasP := false, pre := [], ps := [tbw], rs := (.one tbg), post := [], F := fun x => Sp13.x58 x.2.1 }
def c59 : Con := { hasP := true, pre := tape, ps := [tbw], rs := (.one tbw), post := tape, F := fun x => none }
def c26 : Con := { hasP := true, pre := tape, ps := [i], rs := (.one tbw), post := tape, F := fun x => Sp13.x26 x.1 x.2.1 }
def c7 : Con := { hasP := false, pre := [], ps := [ls, oc, p, i], rs := (.one b), post := [], F := fun x => some (true, ()) }
abbrev L0 : List (Nat × Con) := []
abbrev G8 : Gam := lookC L0
abbrev L8 : List (Nat × Con) := ((8 : Nat), c8) :: L0
abbrev G83 : Gam := lookC L8
abbrev L83 : List (Nat × Con) := ((83 : Nat), c83) :: L8
abbrev G17 : Gam := lookC L83
abbrev L17 : List (Nat × Con) := ((17 : Nat), c17) :: L83
abbrev G80 : Gam := lookC L17
abbrev L80 : List (Nat × Con) := ((80 : Nat), c80) :: L17
abbrev G54 : Gam := lookC L80
abbrev L54 : List (Nat × Con) := ((54 : Nat), c54) :: L80
abbrev G84 : Gam := lookC L54
abbrev L84 : List (Nat × Con) := ((84 : Nat), c84) :: L54
abbrev G46 : Gam := lookC L84
abbrev L46 : List (Nat × Con) := ((46 : Nat), c46) :: L84
abbrev G48 : Gam := lookC L46
abbrev L48 : List (Nat × Con) := ((48 : Nat), c48) :: L46
abbrev G16 : Gam := lookC L48
abbrev L16 : List (Nat × Con) := ((16 : Nat), c16) :: L48
abbrev G18 : Gam := lookC L16
abbrev L18 : List (Nat × Con) := ((18 : Nat), c18) :: L16
abbrev G50 : Gam := lookC L18
abbrev L50 : List (Nat × Con) := ((50 : Nat), c50) :: L18
abbrev G51 : Gam := lookC L50
abbrev L51 : List (Nat × Con) := ((51 : Nat), c51) :: L50
abbrev G20 : Gam := lookC L51
abbrev L20 : List (Nat × Con) := ((20 : Nat), c20) :: L51
abbrev G49 : Gam := lookC L20
abbrev L49 : List (Nat × Con) := ((49 : Nat), c49) :: L20
abbrev G19 : Gam := lookC L49
abbrev L19 : List (Nat × Con) := ((19 : Nat), c19) :: L49
abbrev G21 : Gam := lookC L19
abbrev L21 : List (Nat × Con) := ((21 : Nat), c21) :: L19
abbrev G24 : Gam := lookC L21
abbrev L24 : List (Nat × Con) := ((24 : Nat), c24) :: L21
abbrev G31 : Gam := lookC L24
abbrev L31 : List (Nat × Con) := ((31 : Nat), c31) :: L24
abbrev G33 : Gam := lookC L31
abbrev L33 : List (Nat × Con) := ((33 : Nat), c33) :: L31
abbrev G52 : Gam := lookC L33
abbrev L52 : List (Nat × Con) := ((52 : Nat), c52) :: L33
abbrev G53 : Gam := lookC L52
abbrev L53 : List (Nat × Con) := ((53 : Nat), c53) :: L52
abbrev G23 : Gam := lookC L53
abbrev L23 : List (Nat × Con) := ((23 : Nat), c23) :: L53
abbrev G88 : Gam := lookC L23
abbrev L88 : List (Nat × Con) := ((88 : Nat), c88) :: L23
abbrev G60 : Gam := lookC L88
abbrev L60 : List (Nat × Con) := ((60 : Nat), c60) :: L88
abbrev G28 : Gam := lookC L60
abbrev L28 : List (Nat × Con) := ((28 : Nat), c28) :: L60
abbrev G61 : Gam := lookC L28
abbrev L61 : List (Nat × Con) := ((61 : Nat), c61) :: L28
abbrev G29 : Gam := lookC L61
abbrev L29 : List (Nat × Con) := ((29 : Nat), c29) :: L61
abbrev G71 : Gam := lookC L29
abbrev L71 : List (Nat × Con) := ((71 : Nat), c71) :: L29
abbrev G64 : Gam := lookC L71
abbrev L64 : List (Nat × Con) := ((64 : Nat), c64) :: L71
abbrev G94 : Gam := lookC L64
abbrev L94 : List (Nat × Con) := ((94 : Nat), c94) :: L64
abbrev G72 : Gam := lookC L94
abbrev L72 : List (Nat × Con) := ((72 : Nat), c72) :: L94
abbrev G35 : Gam := lookC L72
abbrev L35 : List (Nat × Con) := ((35 : Nat), c35) :: L72
abbrev G36 : Gam := lookC L35
abbrev L36 : List (Nat × Con) := ((36 : Nat), c36) :: L35
abbrev G73 : Gam := lookC L36
abbrev L73 : List (Nat × Con) := ((73 : Nat), c73) :: L36
abbrev G37 : Gam := lookC L73
abbrev L37 : List (Nat × Con) := ((37 : Nat), c37) :: L73
abbrev G74 : Gam := lookC L37
abbrev L74 : List (Nat × Con) := ((74 : Nat), c74) :: L37
abbrev G38 : Gam := lookC L74
abbrev L38 : List (Nat × Con) := ((38 : Nat), c38) :: L74
abbrev G41 : Gam := lookC L38
abbrev L41 : List (Nat × Con) := ((41 : Nat), c41) :: L38
abbrev G55 : Gam := lookC L41
abbrev L55 : List (Nat × Con) := ((55 : Nat), c55) :: L41
abbrev G56 : Gam := lookC L55
abbrev L56 : List (Nat × Con) := ((56 : Nat), c56) :: L55
abbrev G89 : Gam := lookC L56
abbrev L89 : List (Nat × Con) := ((89 : Nat), c89) :: L56
abbrev G93 : Gam := lookC L89
abbrev L93 : List (Nat × Con) := ((93 : Nat), c93) :: L89
abbrev G70 : Gam := lookC L93
abbrev L70 : List (Nat × Con) := ((70 : Nat), c70) :: L93
abbrev G98 : Gam := lookC L70
abbrev L98 : List (Nat × Con) := ((98 : Nat), c98) :: L70
abbrev G99 : Gam := lookC L98
abbrev L99 : List (Nat × Con) := ((99 : Nat), c99) :: L98
abbrev G85 : Gam := lookC L99
abbrev L85 : List (Nat × Con) := ((85 : Nat), c85) :: L99
abbrev G100 : Gam := lookC L85
abbrev L100 : List (Nat × Con) := ((100 : Nat), c100) :: L85
abbrev G86 : Gam := lookC L100
abbrev L86 : List (Nat × Con) := ((86 : Nat), c86) :: L100
abbrev G96 : Gam := lookC L86
abbrev L96 : List (Nat × Con) := ((96 : Nat), c96) :: L86
abbrev G101 : Gam := lookC L96
abbrev L101 : List (Nat × Con) := ((101 : Nat), c101) :: L96
abbrev G104 : Gam := lookC L101
abbrev L104 : List (Nat × Con) := ((104 : Nat), c104) :: L101
abbrev G111 : Gam := lookC L104
abbrev L111 : List (Nat × Con) := ((111 : Nat), c111) :: L104
abbrev G110 : Gam := lookC L111
abbrev L110 : List (Nat × Con) := ((110 : Nat), c110) :: L111
abbrev G63 : Gam := lookC L110
abbrev L63 : List (Nat × Con) := ((63 : Nat), c63) :: L110
abbrev G92 : Gam := lookC L63
abbrev L92 : List (Nat × Con) := ((92 : Nat), c92) :: L63
abbrev G103 : Gam := lookC L92
abbrev L103 : List (Nat × Con) := ((103 : Nat), c103) :: L92
abbrev G91 : Gam := lookC L103
abbrev L91 : List (Nat × Con) := ((91 : Nat), c91) :: L103
abbrev G66 : Gam := lookC L91
abbrev L66 : List (Nat × Con) := ((66 : Nat), c66) :: L91
abbrev G67 : Gam := lookC L66
abbrev L67 : List (Nat × Con) := ((67 : Nat), c67) :: L66
abbrev G69 : Gam := lookC L67
abbrev L69 : List (Nat × Con) := ((69 : Nat), c69) :: L67
abbrev G90 : Gam := lookC L69
abbrev L90 : List (Nat × Con) := ((90 : Nat), c90) :: L69
abbrev G65 : Gam := lookC L90
abbrev L65 : List (Nat × Con) := ((65 : Nat), c65) :: L90
abbrev G90v : Gam := lookC L65
abbrev L90v : List (Nat × Con) := ((90 : Nat), c90v) :: L65
abbrev G65w1 : Gam := lookC L90v
abbrev L65w1 : List (Nat × Con) := ((1000065 : Nat), c65w1) :: L90v
abbrev G90x : Gam := lookC L65w1
abbrev L90x : List (Nat × Con) := ((90 : Nat), c90x) :: L65w1
abbrev G65w2 : Gam := lookC L90x
abbrev L65w2 : List (Nat × Con) := ((2000065 : Nat), c65w2) :: L90x
abbrev G68 : Gam := lookC L65w2
abbrev L68 : List (Nat × Con) := ((68 : Nat), c68) :: L65w2
abbrev G34 : Gam := lookC L68
abbrev L34 : List (Nat × Con) := ((34 : Nat), c34) :: L68
abbrev G75 : Gam := lookC L34
abbrev L75 : List (Nat × Con) := ((75 : Nat), c75) :: L34
abbrev L95 : List (Nat × Con) := ((95 : Nat), c95) :: L75
abbrev G76 : Gam := lookC L95
abbrev L76 : List (Nat × Con) := ((76 : Nat), c76) :: L95
abbrev G77 : Gam := lookC L76
abbrev L77 : List (Nat × Con) := ((77 : Nat), c77) :: L76
abbrev G39 : Gam := lookC L77
abbrev L39 : List (Nat × Con) := ((39 : Nat), c39) :: L77
abbrev G25 : Gam := lookC L39
abbrev L25 : List (Nat × Con) := ((25 : Nat), c25) :: L39
abbrev G27 : Gam := lookC L25
abbrev L27 : List (Nat × Con) := ((27 : Nat), c27) :: L25
abbrev L40 : List (Nat × Con) := ((40 : Nat), c40) :: L27
abbrev G10 : Gam := lookC L40
abbrev L10 : List (Nat × Con) := ((10 : Nat), c10) :: L40
abbrev G42 : Gam := lookC L10
abbrev L42 : List (Nat × Con) := ((42 : Nat), c42) :: L10
abbrev G11 : Gam := lookC L42
abbrev L11 : List (Nat × Con) := ((11 : Nat), c11) :: L42
abbrev G107 : Gam := lookC L11
abbrev L107 : List (Nat × Con) := ((107 : Nat), c107) :: L11
abbrev G108 : Gam := lookC L107
abbrev L108 : List (Nat × Con) := ((108 : Nat), c108) :: L107
abbrev G105 : Gam := lookC L108
abbrev L105 : List (Nat × Con) := ((105 : Nat), c105) :: L108
abbrev G109 : Gam := lookC L105
abbrev L109 : List (Nat × Con) := ((109 : Nat), c109) :: L105
abbrev G106 : Gam := lookC L109
abbrev L106 : List (Nat × Con) := ((106 : Nat), c106) :: L109
abbrev G102 : Gam := lookC L106
abbrev L102 : List (Nat × Con) := ((102 : Nat), c102) :: L106
abbrev G87 : Gam := lookC L102
abbrev L87 : List (Nat × Con) := ((87 : Nat), c87) :: L102
abbrev G57 : Gam := lookC L87
abbrev L57 : List (Nat × Con) := ((57 : Nat), c57) :: L87
abbrev G58 : Gam := lookC L57
abbrev L58 : List (Nat × Con) := ((58 : Nat), c58) :: L57
abbrev L59 : List (Nat × Con) := ((59 : Nat), c59) :: L58
abbrev G26 : Gam := lookC L59
abbrev L26 : List (Nat × Con) := ((26 : Nat), c26) :: L59
abbrev G7 : Gam := lookC L26
end
end Go.Abs.C13

namespace Go.Abs.C13
open Go Go.Proofs Go.Abs
noncomputable def g53 (a0 : List Int) (a1 : Int) : Option (Int × List Int × Int × Unit) := Option.bind (Sp13.on (Sp13.wf (a0, a1, ()) && true && true) (Sp13.pick (a0, a1, ()) Sp13.wilds)) (fun y => some y)
theorem g53_eq (a0 : List Int) (a1 : Int) : (evF (fun _ _ => Loop) E53 G53 Tryd.f53 plan53 c53 ((a0, (a1, ())), ())).den = g53 a0 a1 := by kernel_rfl
end Go.Abs.C13

namespace Go.Abs.C13
open Go Go.Abs
set_option maxRecDepth 20000
set_option linter.unusedVariables false
noncomputable def g88_s0 (a0 : (@List Sp13.Lk)) (a1 : (Int × ((@List Sp13.Lk) × Unit))) (a2 : (Int × ((@List Sp13.Lk) × Unit))) : (Option (Sum (Int × ((@List Sp13.Lk) × Unit)) (Int × ((@List Sp13.Lk) × Unit)))) :=
  (Option.bind (bif (decide (a2.1 < (Int.ofNat a2.2.1.length))) then (bif (decide (a2.1 < (Int.ofNat a2.2.1.length))) then (bif (decide (a2.1 < (Int.ofNat a2.2.1.length))) then (bif ((decide (0 ≤ a2.1)) && (decide (a2.1 < (Int.ofNat a2.2.1.length)))) then (bif (decide (a2.1 < (Int.ofNat a2.2.1.length))) then (bif (decide (a2.1 < (Int.ofNat a2.2.1.length))) then (bif (@Nat.blt (Int.toNat a2.1) a2.2.1.length) then (bif (decide (a2.1 < (Int.ofNat a2.2.1.length))) then (bif (decide (a2.1 < (Int.ofNat a2.2.1.length))) then (bif (decide (a2.1 < (Int.ofNat a2.2.1.length))) then (bif ((decide (0 ≤ a1.1)) && (decide (a1.1 < (Int.ofNat a0.length)))) then (bif (decide (a2.1 < (Int.ofNat a2.2.1.length))) then (bif (decide (a2.1 < (Int.ofNat a2.2.1.length))) then (bif (decide (a2.1 < (Int.ofNat a2.2.1.length))) then (bif (decide (a2.1 < (Int.ofNat a2.2.1.length))) then (bif (!(decide ((List.getD a2.2.1 (Int.toNat a2.1) (0, (0, (0, (0, (0, ())))))).1 < (List.getD a0 (Int.toNat a1.1) (0, (0, (0, (0, (0, ())))))).1))) then (bif (!(decide ((List.getD a2.2.1 (Int.toNat a2.1) (0, (0, (0, (0, (0, ())))))).1 < (List.getD a0 (Int.toNat a1.1) (0, (0, (0, (0, (0, ())))))).1))) then (bif (!(decide ((List.getD a2.2.1 (Int.toNat a2.1) (0, (0, (0, (0, (0, ())))))).1 < (List.getD a0 (Int.toNat a1.1) (0, (0, (0, (0, (0, ())))))).1))) then (bif ((decide (0 ≤ a2.1)) && (decide (a2.1 < (Int.ofNat a2.2.1.length)))) then (bif (!(decide ((List.getD a2.2.1 (Int.toNat a2.1) (0, (0, (0, (0, (0, ())))))).1 < (List.getD a0 (Int.toNat a1.1) (0, (0, (0, (0, (0, ())))))).1))) then (bif (!(decide ((List.getD a2.2.1 (Int.toNat a2.1) (0, (0, (0, (0, (0, ())))))).1 < (List.getD a0 (Int.toNat a1.1) (0, (0, (0, (0, (0, ())))))).1))) then (bif (@Nat.blt (Int.toNat a2.1) a2.2.1.length) then (bif (!(decide ((List.getD a2.2.1 (Int.toNat a2.1) (0, (0, (0, (0, (0, ())))))).1 < (List.getD a0 (Int.toNat a1.1) (0, (0, (0, (0, (0, ())))))).1))) then (bif (!(decide ((List.getD a2.2.1 (Int.toNat a2.1) (0, (0, (0, (0, (0, ())))))).1 < (List.getD a0 (Int.toNat a1.1) (0, (0, (0, (0, (0, ())))))).1))) then (bif (!(decide ((List.getD a2.2.1 (Int.toNat a2.1) (0, (0, (0, (0, (0, ())))))).1 < (List.getD a0 (Int.toNat a1.1) (0, (0, (0, (0, (0, ())))))).1))) then (bif ((decide (0 ≤ a1.1)) && (decide (a1.1 < (Int.ofNat a0.length)))) then (bif (!(decide ((List.getD a2.2.1 (Int.toNat a2.1) (0, (0, (0, (0, (0, ())))))).1 < (List.getD a0 (Int.toNat a1.1) (0, (0, (0, (0, (0, ())))))).1))) then (bif (!(decide ((List.getD a2.2.1 (Int.toNat a2.1) (0, (0, (0, (0, (0, ())))))).1 < (List.getD a0 (Int.toNat a1.1) (0, (0, (0, (0, (0, ())))))).1))) then (bif (!(decide ((List.getD a2.2.1 (Int.toNat a2.1) (0, (0, (0, (0, (0, ())))))).1 < (List.getD a0 (Int.toNat a1.1) (0, (0, (0, (0, (0, ())))))).1))) then (bif (!(decide ((List.getD a2.2.1 (Int.toNat a2.1) (0, (0, (0, (0, (0, ())))))).1 < (List.getD a0 (Int.toNat a1.1) (0, (0, (0, (0, (0, ())))))).1))) then (bif (decide ((List.getD a2.2.1 (Int.toNat a2.1) (0, (0, (0, (0, (0, ())))))).1 = (List.getD a0 (Int.toNat a1.1) (0, (0, (0, (0, (0, ())))))).1)) then (bif (decide ((List.getD a2.2.1 (Int.toNat a2.1) (0, (0, (0, (0, (0, ())))))).1 = (List.getD a0 (Int.toNat a1.1) (0, (0, (0, (0, (0, ())))))).1)) then (bif (decide ((List.getD a2.2.1 (Int.toNat a2.1) (0, (0, (0, (0, (0, ())))))).1 = (List.getD a0 (Int.toNat a1.1) (0, (0, (0, (0, (0, ())))))).1)) then (bif ((decide (0 ≤ a2.1)) && (decide (a2.1 < (Int.ofNat a2.2.1.length)))) then (bif (decide ((List.getD a2.2.1 (Int.toNat a2.1) (0, (0, (0, (0, (0, ())))))).1 = (List.getD a0 (Int.toNat a1.1) (0, (0, (0, (0, (0, ())))))).1)) then (bif (decide ((List.getD a2.2.1 (Int.toNat a2.1) (0, (0, (0, (0, (0, ())))))).1 = (List.getD a0 (Int.toNat a1.1) (0, (0, (0, (0, (0, ())))))).1)) then (bif (@Nat.blt (Int.toNat a2.1) a2.2.1.length) then (bif (decide ((List.getD a2.2.1 (Int.toNat a2.1) (0, (0, (0, (0, (0, ())))))).1 = (List.getD a0 (Int.toNat a1.1) (0, (0, (0, (0, (0, ())))))).1)) then (bif (decide ((List.getD a2.2.1 (Int.toNat a2.1) (0, (0, (0, (0, (0, ())))))).1 = (List.getD a0 (Int.toNat a1.1) (0, (0, (0, (0, (0, ())))))).1)) then (bif (decide ((List.getD a2.2.1 (Int.toNat a2.1) (0, (0, (0, (0, (0, ())))))).1 = (List.getD a0 (Int.toNat a1.1) (0, (0, (0, (0, (0, ())))))).1)) then (bif ((decide (0 ≤ a1.1)) && (decide (a1.1 < (Int.ofNat a0.length)))) then (bif (decide ((List.getD a2.2.1 (Int.toNat a2.1) (0, (0, (0, (0, (0, ())))))).1 = (List.getD a0 (Int.toNat a1.1) (0, (0, (0, (0, (0, ())))))).1)) then (bif (decide ((List.getD a2.2.1 (Int.toNat a2.1) (0, (0, (0, (0, (0, ())))))).1 = (List.getD a0 (Int.toNat a1.1) (0, (0, (0, (0, (0, ())))))).1)) then (bif (decide ((List.getD a2.2.1 (Int.toNat a2.1) (0, (0, (0, (0, (0, ())))))).1 = (List.getD a0 (Int.toNat a1.1) (0, (0, (0, (0, (0, ())))))).1)) then (bif (!(decide ((List.getD a2.2.1 (Int.toNat a2.1) (0, (0, (0, (0, (0, ())))))).1 < (List.getD a0 (Int.toNat a1.1) (0, (0, (0, (0, (0, ())))))).1))) then (bif (decide ((List.getD a2.2.1 (Int.toNat a2.1) (0, (0, (0, (0, (0, ())))))).1 = (List.getD a0 (Int.toNat a1.1) (0, (0, (0, (0, (0, ())))))).1)) then (bif (decide (a2.1 < (Int.ofNat a2.2.1.length))) then (bif (!(decide ((List.getD a2.2.1 (Int.toNat a2.1) (0, (0, (0, (0, (0, ())))))).1 < (List.getD a0 (Int.toNat a1.1) (0, (0, (0, (0, (0, ())))))).1))) then (bif (decide (a2.1 < (Int.ofNat a2.2.1.length))) then (some (a2.2.1, ((decide ((List.getD a2.2.1 (Int.toNat a2.1) (0, (0, (0, (0, (0, ())))))).2.1 < (List.getD a0 (Int.toNat a1.1) (0, (0, (0, (0, (0, ())))))).2.1)), ()))) else none) else none) else none) else none) else none) else none) else none) else none) else none) else none) else none) else none) else none) else none) else none) else none) else none) else none) else (bif (!(decide ((List.getD a2.2.1 (Int.toNat a2.1) (0, (0, (0, (0, (0, ())))))).1 = (List.getD a0 (Int.toNat a1.1) (0, (0, (0, (0, (0, ())))))).1))) then (bif (!(decide ((List.getD a2.2.1 (Int.toNat a2.1) (0, (0, (0, (0, (0, ())))))).1 = (List.getD a0 (Int.toNat a1.1) (0, (0, (0, (0, (0, ())))))).1))) then (bif (!(decide ((List.getD a2.2.1 (Int.toNat a2.1) (0, (0, (0, (0, (0, ())))))).1 = (List.getD a0 (Int.toNat a1.1) (0, (0, (0, (0, (0, ())))))).1))) then (bif (!(decide ((List.getD a2.2.1 (Int.toNat a2.1) (0, (0, (0, (0, (0, ())))))).1 = (List.getD a0 (Int.toNat a1.1) (0, (0, (0, (0, (0, ())))))).1))) then (bif (!(decide ((List.getD a2.2.1 (Int.toNat a2.1) (0, (0, (0, (0, (0, ())))))).1 = (List.getD a0 (Int.toNat a1.1) (0, (0, (0, (0, (0, ())))))).1))) then (bif (!(decide ((List.getD a2.2.1 (Int.toNat a2.1) (0, (0, (0, (0, (0, ())))))).1 = (List.getD a0 (Int.toNat a1.1) (0, (0, (0, (0, (0, ())))))).1))) then (bif (!(decide ((List.getD a2.2.1 (Int.toNat a2.1) (0, (0, (0, (0, (0, ())))))).1 = (List.getD a0 (Int.toNat a1.1) (0, (0, (0, (0, (0, ())))))).1))) then (bif (!(decide ((List.getD a2.2.1 (Int.toNat a2.1) (0, (0, (0, (0, (0, ())))))).1 = (List.getD a0 (Int.toNat a1.1) (0, (0, (0, (0, (0, ())))))).1))) then (bif (!(decide ((List.getD a2.2.1 (Int.toNat a2.1) (0, (0, (0, (0, (0, ())))))).1 = (List.getD a0 (Int.toNat a1.1) (0, (0, (0, (0, (0, ())))))).1))) then (bif (!(decide ((List.getD a2.2.1 (Int.toNat a2.1) (0, (0, (0, (0, (0, ())))))).1 = (List.getD a0 (Int.toNat a1.1) (0, (0, (0, (0, (0, ())))))).1))) then (bif (!(decide ((List.getD a2.2.1 (Int.toNat a2.1) (0, (0, (0, (0, (0, ())))))).1 < (List.getD a0 (Int.toNat a1.1) (0, (0, (0, (0, (0, ())))))).1))) then (bif (!(decide ((List.getD a2.2.1 (Int.toNat a2.1) (0, (0, (0, (0, (0, ())))))).1 = (List.getD a0 (Int.toNat a1.1) (0, (0, (0, (0, (0, ())))))).1))) then (bif (decide (a2.1 < (Int.ofNat a2.2.1.length))) then (bif (!(decide ((List.getD a2.2.1 (Int.toNat a2.1) (0, (0, (0, (0, (0, ())))))).1 < (List.getD a0 (Int.toNat a1.1) (0, (0, (0, (0, (0, ())))))).1))) then (bif (decide (a2.1 < (Int.ofNat a2.2.1.length))) then (some (a2.2.1, (false, ()))) else none) else none) else none) else none) else none) else none) else none) else none) else none) else none) else none) else none) else none) else none) else none)) else none) else none) else none) else none) else none) else none) else none) else none) else none) else none) else none) else none) else none) else none) else (bif (decide ((List.getD a2.2.1 (Int.toNat a2.1) (0, (0, (0, (0, (0, ())))))).1 < (List.getD a0 (Int.toNat a1.1) (0, (0, (0, (0, (0, ())))))).1)) then (bif (decide ((List.getD a2.2.1 (Int.toNat a2.1) (0, (0, (0, (0, (0, ())))))).1 < (List.getD a0 (Int.toNat a1.1) (0, (0, (0, (0, (0, ())))))).1)) then (bif (decide ((List.getD a2.2.1 (Int.toNat a2.1) (0, (0, (0, (0, (0, ())))))).1 < (List.getD a0 (Int.toNat a1.1) (0, (0, (0, (0, (0, ())))))).1)) then (bif (decide ((List.getD a2.2.1 (Int.toNat a2.1) (0, (0, (0, (0, (0, ())))))).1 < (List.getD a0 (Int.toNat a1.1) (0, (0, (0, (0, (0, ())))))).1)) then (bif (decide ((List.getD a2.2.1 (Int.toNat a2.1) (0, (0, (0, (0, (0, ())))))).1 < (List.getD a0 (Int.toNat a1.1) (0, (0, (0, (0, (0, ())))))).1)) then (bif (decide ((List.getD a2.2.1 (Int.toNat a2.1) (0, (0, (0, (0, (0, ())))))).1 < (List.getD a0 (Int.toNat a1.1) (0, (0, (0, (0, (0, ())))))).1)) then (bif (decide ((List.getD a2.2.1 (Int.toNat a2.1) (0, (0, (0, (0, (0, ())))))).1 < (List.getD a0 (Int.toNat a1.1) (0, (0, (0, (0, (0, ())))))).1)) then (bif (decide ((List.getD a2.2.1 (Int.toNat a2.1) (0, (0, (0, (0, (0, ())))))).1 < (List.getD a0 (Int.toNat a1.1) (0, (0, (0, (0, (0, ())))))).1)) then (bif (decide ((List.getD a2.2.1 (Int.toNat a2.1) (0, (0, (0, (0, (0, ())))))).1 < (List.getD a0 (Int.toNat a1.1) (0, (0, (0, (0, (0, ())))))).1)) then (bif (decide ((List.getD a2.2.1 (Int.toNat a2.1) (0, (0, (0, (0, (0, ())))))).1 < (List.getD a0 (Int.toNat a1.1) (0, (0, (0, (0, (0, ())))))).1)) then (bif (decide ((List.getD a2.2.1 (Int.toNat a2.1) (0, (0, (0, (0, (0, ())))))).1 < (List.getD a0 (Int.toNat a1.1) (0, (0, (0, (0, (0, ())))))).1)) then (bif (decide ((List.getD a2.2.1 (Int.toNat a2.1) (0, (0, (0, (0, (0, ())))))).1 < (List.getD a0 (Int.toNat a1.1) (0, (0, (0, (0, (0, ())))))).1)) then (bif (decide (a2.1 < (Int.ofNat a2.2.1.length))) then (bif (decide ((List.getD a2.2.1 (Int.toNat a2.1) (0, (0, (0, (0, (0, ())))))).1 < (List.getD a0 (Int.toNat a1.1) (0, (0, (0, (0, (0, ())))))).1)) then (bif (decide (a2.1 < (Int.ofNat a2.2.1.length))) then (some (a2.2.1, (true, ()))) else none) else none) else none) else none) else none) else none) else none) else none) else none) else none) else none) else none) else none) else none) else none)) else none) else none) else none) else none) else none) else none) else none) else none) else none) else none) else none) else none) else none) else none) else (bif (!(decide (a2.1 < (Int.ofNat a2.2.1.length)))) then (bif (!(decide (a2.1 < (Int.ofNat a2.2.1.length)))) then (bif (!(decide (a2.1 < (Int.ofNat a2.2.1.length)))) then (bif (!(decide (a2.1 < (Int.ofNat a2.2.1.length)))) then (bif (!(decide (a2.1 < (Int.ofNat a2.2.1.length)))) then (bif (!(decide (a2.1 < (Int.ofNat a2.2.1.length)))) then (bif (!(decide (a2.1 < (Int.ofNat a2.2.1.length)))) then (bif (!(decide (a2.1 < (Int.ofNat a2.2.1.length)))) then (bif (!(decide (a2.1 < (Int.ofNat a2.2.1.length)))) then (bif (!(decide (a2.1 < (Int.ofNat a2.2.1.length)))) then (bif (!(decide (a2.1 < (Int.ofNat a2.2.1.length)))) then (bif (!(decide (a2.1 < (Int.ofNat a2.2.1.length)))) then (bif (!(decide (a2.1 < (Int.ofNat a2.2.1.length)))) then (some (a2.2.1, (false, ()))) else none) else none) else none) else none) else none) else none) else none) else none) else none) else none) else none) else none) else none)) (fun y3 => (bif y3.2.1 then (some (.inl ((IntKind.wrap .i64 (a2.1 + 1)), (y3.1, ())))) else (some (.inr (a2.1, (y3.1, ())))))))
noncomputable def g88_s1 (a0 : (@List Sp13.Lk)) (a1 : (Int × ((@List Sp13.Lk) × Unit))) : (Option (Sum (Int × ((@List Sp13.Lk) × Unit)) ((@List Sp13.Lk) × Unit))) :=
  (bif (decide (a1.1 < (Int.ofNat a0.length))) then (Option.bind (Loop (@g88_s0 a0 a1) (0, a1.2)) (fun y2 => (bif ((true && (decide (0 ≤ y2.1))) && (decide (y2.1 ≤ (Int.ofNat y2.2.1.length)))) then (bif (@Nat.ble ((0 + (List.drop 0 (List.take (Int.toNat y2.1) y2.2.1)).length) * 40) 140737488355328) then (bif ((decide (0 ≤ a1.1)) && (decide (a1.1 < (Int.ofNat a0.length)))) then (bif (@Nat.ble ((([] ++ (List.drop 0 (List.take (Int.toNat y2.1) y2.2.1))).length + 1) * 40) 140737488355328) then (bif (((decide (0 ≤ y2.1)) && (decide (y2.1 ≤ (Int.ofNat y2.2.1.length)))) && (decide ((Int.ofNat y2.2.1.length) ≤ (Int.ofNat y2.2.1.length)))) then (bif (@Nat.ble (((([] ++ (List.drop 0 (List.take (Int.toNat y2.1) y2.2.1))) ++ ((List.getD a0 (Int.toNat a1.1) (0, (0, (0, (0, (0, ())))))) :: [])).length + (List.drop (Int.toNat y2.1) (List.take (Int.toNat (Int.ofNat y2.2.1.length)) y2.2.1)).length) * 40) 140737488355328) then (some (.inl ((IntKind.wrap .i64 (a1.1 + 1)), (((([] ++ (List.drop 0 (List.take (Int.toNat y2.1) y2.2.1))) ++ ((List.getD a0 (Int.toNat a1.1) (0, (0, (0, (0, (0, ())))))) :: [])) ++ (List.drop (Int.toNat y2.1) (List.take (Int.toNat (Int.ofNat y2.2.1.length)) y2.2.1))), ())))) else none) else none) else none) else none) else none) else none))) else (some (.inr a1.2)))
noncomputable def g88 (a0 : (@List Sp13.Lk)) : (Option ((@List Sp13.Lk) × Unit)) :=
  (Option.bind (Loop (@g88_s1 a0) (0, ([], ()))) (fun y1 => (some y1)))
theorem g88_eq (a0 : (@List Sp13.Lk)) : (evF (fun _ _ => Loop) E88 G88 Go.Proofs.Tryd.f88 plan88 c88 ((), (a0, ()))).den = g88 a0 := by kernel_rfl

noncomputable def g25_s0 (a0 : Int) (a1 : Int) (a2 : Int) (a3 : Int) (a4 : Int) (a5 : Int) (a6 : Int) (a7 : Int) (a8 : Int) (a9 : Int) (a10 : Int) (a11 : (List Int)) (a12 : (Int × ((@List (Int × (Sp13.Pk × Unit))) × Unit))) : (Option (Sum (Int × ((@List (Int × (Sp13.Pk × Unit))) × Unit)) ((@List (Int × (Sp13.Pk × Unit))) × Unit))) :=
  (bif (decide (a12.1 < (Int.ofNat (Sp13.Bt.list a1).length))) then (bif ((decide (0 ≤ a12.1)) && (decide (a12.1 < (Int.ofNat (Sp13.Bt.list a1).length)))) then (bif (@Nat.ble ((a12.2.1.length + 1) * 96) 140737488355328) then (some (.inl ((IntKind.wrap .i64 (a12.1 + 1)), ((a12.2.1 ++ ((a0, ((Sp13.only (a2, (a3, (a4, (a5, (a6, (a7, (a8, (a9, (a10, (a11, ())))))))))) (List.getD (Sp13.Bt.list a1) (Int.toNat a12.1) 0)), ())) :: [])), ())))) else none) else none) else (some (.inr a12.2)))
noncomputable def g25 (a0 : Int) (a1 : Int) (a2 : Int) (a3 : (@List (Int × ((List Int) × Unit)))) (a4 : Int) (a5 : Int) (a6 : Int) (a7 : (@List Sp13.Cp)) (a8 : Int) (a9 : Int) (a10 : Int) (a11 : Int) (a12 : Int) (a13 : Int) (a14 : Int) (a15 : Int) (a16 : Int) (a17 : (List Int)) : (Option ((@List (Int × (Sp13.Pk × Unit))) × Unit)) :=
  (Option.bind (Loop (@g25_s0 a4 a5 a8 a9 a10 a11 a12 a13 a14 a15 a16 a17) (0, ([], ()))) (fun y18 => (some y18)))
theorem g25_eq (a0 : Int) (a1 : Int) (a2 : Int) (a3 : (@List (Int × ((List Int) × Unit)))) (a4 : Int) (a5 : Int) (a6 : Int) (a7 : (@List Sp13.Cp)) (a8 : Int) (a9 : Int) (a10 : Int) (a11 : Int) (a12 : Int) (a13 : Int) (a14 : Int) (a15 : Int) (a16 : Int) (a17 : (List Int)) : (evF (fun _ _ => Loop) E25 G25 Go.Proofs.Tryd.f25 plan25 c25 ((), ((a0, (a1, (a2, (a3, ())))), (a4, ((a5, (a6, (a7, ()))), ((a8, (a9, (a10, (a11, (a12, (a13, (a14, (a15, (a16, (a17, ())))))))))), ())))))).den = g25 a0 a1 a2 a3 a4 a5 a6 a7 a8 a9 a10 a11 a12 a13 a14 a15 a16 a17 := by kernel_rfl

noncomputable def g27_s0 (a0 : Int) (a1 : Int) (a2 : Int) (a3 : Int) (a4 : Int) (a5 : Int) (a6 : Int) (a7 : Int) (a8 : Int) (a9 : Int) (a10 : Int) (a11 : (List Int)) (a12 : (Int × ((@List (Int × (Sp13.Pk × Unit))) × Unit))) : (Option (Sum (Int × ((@List (Int × (Sp13.Pk × Unit))) × Unit)) ((@List (Int × (Sp13.Pk × Unit))) × Unit))) :=
  (bif (decide (a12.1 < (Int.ofNat (Sp13.Bt.list a1).length))) then (bif ((decide (0 ≤ a12.1)) && (decide (a12.1 < (Int.ofNat (Sp13.Bt.list a1).length)))) then (bif (@Nat.ble ((a12.2.1.length + 1) * 96) 140737488355328) then (some (.inl ((IntKind.wrap .i64 (a12.1 + 1)), ((a12.2.1 ++ ((a0, ((Sp13.only (a2, (a3, (a4, (a5, (a6, (a7, (a8, (a9, (a10, (a11, ())))))))))) (List.getD (Sp13.Bt.list a1) (Int.toNat a12.1) 0)), ())) :: [])), ())))) else none) else none) else (some (.inr a12.2)))
noncomputable def g27 (a0 : Int) (a1 : Int) (a2 : Int) (a3 : (@List Sp13.Cp)) (a4 : Int) (a5 : Int) (a6 : Int) (a7 : Int) (a8 : Int) (a9 : Int) (a10 : Int) (a11 : Int) (a12 : Int) (a13 : (List Int)) : (Option ((@List (Int × (Sp13.Pk × Unit))) × Unit)) :=
  (Option.bind (Loop (@g27_s0 a0 a1 a4 a5 a6 a7 a8 a9 a10 a11 a12 a13) (0, ([], ()))) (fun y14 => (some y14)))
theorem g27_eq (a0 : Int) (a1 : Int) (a2 : Int) (a3 : (@List Sp13.Cp)) (a4 : Int) (a5 : Int) (a6 : Int) (a7 : Int) (a8 : Int) (a9 : Int) (a10 : Int) (a11 : Int) (a12 : Int) (a13 : (List Int)) : (evF (fun _ _ => Loop) E27 G27 Go.Proofs.Tryd.f27 plan27 c27 ((), (a0, ((a1, (a2, (a3, ()))), ((a4, (a5, (a6, (a7, (a8, (a9, (a10, (a11, (a12, (a13, ())))))))))), ()))))).den = g27 a0 a1 a2 a3 a4 a5 a6 a7 a8 a9 a10 a11 a12 a13 := by kernel_rfl

noncomputable def g61_s0 (a0 : Int) (a1 : (Sp13.Tp × Sp13.Tp)) : (Option (Sum (Sp13.Tp × Sp13.Tp) (Sp13.Tp × ((List Int) × Unit)))) :=
  (bif (decide (a1.2.2.1 < a0)) then (Option.bind (Sp13.on (Sp13.wf a1.1) (Sp13.next a1.1 (IntKind.wrap .i64 (a1.2.2.1 + 1)))) (fun y2 => (bif ((true && (decide (0 ≤ y2.1))) && (decide (y2.1 ≤ (Int.ofNat a1.2.1.length)))) then (bif (@Nat.ble ((0 + (List.drop 0 (List.take (Int.toNat y2.1) a1.2.1)).length) * 8) 140737488355328) then (bif (@Nat.ble ((([] ++ (List.drop 0 (List.take (Int.toNat y2.1) a1.2.1))).length + 1) * 8) 140737488355328) then (bif (((decide (0 ≤ y2.1)) && (decide (y2.1 ≤ (Int.ofNat a1.2.1.length)))) && (decide ((Int.ofNat a1.2.1.length) ≤ (Int.ofNat a1.2.1.length)))) then (bif (@Nat.ble (((([] ++ (List.drop 0 (List.take (Int.toNat y2.1) a1.2.1))) ++ (a1.2.2.1 :: [])).length + (List.drop (Int.toNat y2.1) (List.take (Int.toNat (Int.ofNat a1.2.1.length)) a1.2.1)).length) * 8) 140737488355328) then (some (.inl (y2.2, (((([] ++ (List.drop 0 (List.take (Int.toNat y2.1) a1.2.1))) ++ (a1.2.2.1 :: [])) ++ (List.drop (Int.toNat y2.1) (List.take (Int.toNat (Int.ofNat a1.2.1.length)) a1.2.1))), ((IntKind.wrap .i64 (a1.2.2.1 + 1)), ()))))) else none) else none) else none) else none) else none))) else (some (.inr (a1.1, (a1.2.1, ())))))
noncomputable def g61 (a0 : (List Int)) (a1 : Int) (a2 : Int) : (Option ((List Int) × Sp13.Tp)) :=
  (Option.bind (Loop (@g61_s0 a2) ((a0, (a1, ())), ([], (0, ())))) (fun y3 => (some (y3.2.1, y3.1))))
theorem g61_eq (a0 : (List Int)) (a1 : Int) (a2 : Int) : (evF (fun _ _ => Loop) E61 G61 Go.Proofs.Tryd.f61 plan61 c61 ((a0, (a1, ())), (a2, ()))).den = g61 a0 a1 a2 := by kernel_rfl

noncomputable def g110_s0 (a0 : (@List (Int × (Bool × Unit)))) (a1 : (@List Sp13.Lk)) (a2 : Int) (a3 : Sp13.Tp) : (Option (Sum Sp13.Tp ((List Int) × Unit))) :=
  (bif (decide (a3.2.1 < (Int.ofNat a0.length))) then (bif ((decide (0 ≤ a3.2.1)) && (decide (a3.2.1 < (Int.ofNat a0.length)))) then (Option.bind (bif (Sp13.price a1 a2 (List.getD a0 (Int.toNat a3.2.1) (0, (false, ()))).1).2.1 then (bif ((decide (0 ≤ a3.2.1)) && (decide (a3.2.1 < (Int.ofNat a0.length)))) then (bif (@Nat.ble ((a3.1.length + 1) * 8) 140737488355328) then (some ((a3.1 ++ ((List.getD a0 (Int.toNat a3.2.1) (0, (false, ()))).1 :: [])), ())) else none) else none) else (some (a3.1, ()))) (fun y4 => (some (.inl (y4.1, ((IntKind.wrap .i64 (a3.2.1 + 1)), ())))))) else none) else (some (.inr (a3.1, ()))))
noncomputable def g110 (a0 : (@List (Int × (Bool × Unit)))) (a1 : (@List Sp13.Lk)) (a2 : Int) : (Option ((List Int) × Unit)) :=
  (Option.bind (Loop (@g110_s0 a0 a1 a2) ([], (0, ()))) (fun y3 => (some y3)))
theorem g110_eq (a0 : (@List (Int × (Bool × Unit)))) (a1 : (@List Sp13.Lk)) (a2 : Int) : (evF (fun _ _ => Loop) E110 G110 Go.Proofs.Tryd.f110 plan110 c110 ((), ((a0, (a1, ())), (a2, ())))).den = g110 a0 a1 a2 := by kernel_rfl

noncomputable def g101_s0 (a0 : (@List (Int × (Bool × Unit)))) (a1 : Int) (a2 : (Int × Unit)) : (Option (Sum (Int × Unit) (Bool × ((Bool × Unit) × Unit)))) :=
  (bif (decide (a2.1 < (Int.ofNat a0.length))) then (bif ((decide (0 ≤ a2.1)) && (decide (a2.1 < (Int.ofNat a0.length)))) then (bif (decide ((List.getD a0 (Int.toNat a2.1) (0, (false, ()))).1 = a1)) then (bif ((decide (0 ≤ a2.1)) && (decide (a2.1 < (Int.ofNat a0.length)))) then (some (.inr (true, ((List.getD a0 (Int.toNat a2.1) (0, (false, ()))).2, ())))) else none) else (some (.inl ((IntKind.wrap .i64 (a2.1 + 1)), ())))) else none) else (some (.inr (false, ((false, ()), ())))))
noncomputable def g101 (a0 : (@List (Int × (Bool × Unit)))) (a1 : (@List Sp13.Lk)) (a2 : Int) : (Option (Bool × Unit)) :=
  (bif (!(decide ((Sp13.chkT (a0, (a1, ()))) = 0))) then (some (false, ())) else (Option.bind (Loop (@g101_s0 a0 a2) (0, ())) (fun y3 => (bif y3.1 then (some y3.2.1) else (some (false, ()))))))
theorem g101_eq (a0 : (@List (Int × (Bool × Unit)))) (a1 : (@List Sp13.Lk)) (a2 : Int) : (evF (fun _ _ => Loop) E101 G101 Go.Proofs.Tryd.f101 plan101 c101 ((), ((a0, (a1, ())), (a2, ())))).den = g101 a0 a1 a2 := by kernel_rfl

noncomputable def g99_s0 (a0 : (@List (Int × (Bool × Unit)))) (a1 : Int) (a2 : (Int × Unit)) : (Option (Sum (Int × Unit) (Bool × ((Bool × Unit) × Unit)))) :=
  (bif (decide (a2.1 < (Int.ofNat a0.length))) then (bif ((decide (0 ≤ a2.1)) && (decide (a2.1 < (Int.ofNat a0.length)))) then (bif (decide ((List.getD a0 (Int.toNat a2.1) (0, (false, ()))).1 = a1)) then (some (.inr (true, ((true, ()), ())))) else (some (.inl ((IntKind.wrap .i64 (a2.1 + 1)), ())))) else none) else (some (.inr (false, ((false, ()), ())))))
noncomputable def g99 (a0 : (@List (Int × (Bool × Unit)))) (a1 : (@List Sp13.Lk)) (a2 : Int) : (Option (Bool × Unit)) :=
  (Option.bind (Loop (@g99_s0 a0 a2) (0, ())) (fun y3 => (bif y3.1 then (some y3.2.1) else (some (false, ())))))
theorem g99_eq (a0 : (@List (Int × (Bool × Unit)))) (a1 : (@List Sp13.Lk)) (a2 : Int) : (evF (fun _ _ => Loop) E99 G99 Go.Proofs.Tryd.f99 plan99 c99 ((), ((a0, (a1, ())), (a2, ())))).den = g99 a0 a1 a2 := by kernel_rfl

noncomputable def g38 (a0 : Int) (a1 : Int) (a2 : Int) : (Option ((Int × (Bool × Unit)) × Unit)) :=
  (Option.bind (bif (!(!(Sp13.vlen a2))) then (bif (!(!(Sp13.inside a1 0 (IntKind.wrap .i64 (a2 - 1))))) then (some ((!(Sp13.inside a0 0 31)), ())) else (some (true, ()))) else (some (true, ()))) (fun y3 => (bif y3.1 then (some ((0, (false, ())), ())) else (bif (decide ((IntKind.wrap .i64 ((IntKind.wrap .i64 ((IntKind.wrap .i64 (a0 * a2)) + a1)) + 1)) > 256)) then (some ((0, (false, ())), ())) else (some (((IntKind.wrap .i64 ((IntKind.wrap .i64 ((IntKind.wrap .i64 (a0 * a2)) + a1)) + 1)), (true, ())), ()))))))
theorem g38_eq (a0 : Int) (a1 : Int) (a2 : Int) : (evF (fun _ _ => Loop) E38 G38 Go.Proofs.Tryd.f38 plan38 c38 ((), (a0, (a1, (a2, ()))))).den = g38 a0 a1 a2 := by kernel_rfl

noncomputable def g55_s0 (a0 : Sp13.Tp) : (Option (Sum Sp13.Tp ((List Int) × Unit))) :=
  (bif (!(decide (a0.2.1 = 0))) then (bif (@Nat.ble ((a0.1.length + 1) * 8) 140737488355328) then (some (.inl ((a0.1 ++ ((Sp13.Bt.nth a0.2.1 0) :: [])), ((IntKind.wrap .u64 (Int.ofNat (BitVec.toNat (BitVec.and (BitVec.ofInt 64 a0.2.1) (BitVec.ofInt 64 (IntKind.wrap .u64 (a0.2.1 - 1))))))), ())))) else none) else (some (.inr (a0.1, ()))))
noncomputable def g55 (a0 : Int) : (Option ((List Int) × Unit)) :=
  (Option.bind (Loop g55_s0 ([], (a0, ()))) (fun y1 => (some y1)))
theorem g55_eq (a0 : Int) : (evF (fun _ _ => Loop) E55 G55 Go.Proofs.Tryd.f55 plan55 c55 ((), (a0, ()))).den = g55 a0 := by kernel_rfl

noncomputable def g96 (a0 : Int) (a1 : Int) : (Option ((Int × (Int × (Bool × Unit))) × Unit)) :=
  (Option.bind (bif (!(!(Sp13.vlen a1))) then (some ((!(Sp13.inside a0 1 256)), ())) else (some (true, ()))) (fun y2 => (bif y2.1 then (some ((0, (0, (false, ()))), ())) else (bif (!(decide (a1 = 0))) then (bif (!(decide (a1 = 0))) then (some (((IntKind.wrap .i64 (@Int.tdiv (IntKind.wrap .i64 (a0 - 1)) a1)), ((@Int.tmod (IntKind.wrap .i64 (a0 - 1)) a1), (true, ()))), ())) else none) else none))))
theorem g96_eq (a0 : Int) (a1 : Int) : (evF (fun _ _ => Loop) E96 G96 Go.Proofs.Tryd.f96 plan96 c96 ((), (a0, (a1, ())))).den = g96 a0 a1 := by kernel_rfl

noncomputable def g77 (a0 : Int) (a1 : (List Int)) (a2 : Int) : (Option (Int × Unit)) :=
  (bif (decide ((Int.ofNat a1.length) = 0)) then (some (0, ())) else (bif (!(decide ((Int.ofNat a1.length) = 0))) then (bif ((decide (0 ≤ (@Int.tmod a2 (Int.ofNat a1.length)))) && (decide ((@Int.tmod a2 (Int.ofNat a1.length)) < (Int.ofNat a1.length)))) then (some ((List.getD a1 (Int.toNat (@Int.tmod a2 (Int.ofNat a1.length))) 0), ())) else none) else none))
theorem g77_eq (a0 : Int) (a1 : (List Int)) (a2 : Int) : (evF (fun _ _ => Loop) E77 G77 Go.Proofs.Tryd.f77 plan77 c77 ((), ((a0, (a1, ())), (a2, ())))).den = g77 a0 a1 a2 := by kernel_rfl

noncomputable def g69 (a0 : Int) (a1 : (List Int)) (a2 : Int) (a3 : Int) (a4 : Int) (a5 : (@List (Int × ((List Int) × Unit)))) : (Option (Bool × Unit)) :=
  (Option.bind (bif (decide ((Int.ofNat a1.length) > 1)) then (some ((@List.any Int a1 (fun y6 => (decide (a2 = y6)))), ())) else (some (false, ()))) (fun y6 => (some y6)))
theorem g69_eq (a0 : Int) (a1 : (List Int)) (a2 : Int) (a3 : Int) (a4 : Int) (a5 : (@List (Int × ((List Int) × Unit)))) : (evF (fun _ _ => Loop) E69 G69 Go.Proofs.Tryd.f69 plan69 c69 ((), ((a0, (a1, ())), ((a2, (a3, (a4, (a5, ())))), ())))).den = g69 a0 a1 a2 a3 a4 a5 := by kernel_rfl

noncomputable def g104 (a0 : (@List (Int × (Bool × Unit)))) (a1 : (@List Sp13.Lk)) (a2 : Int) : (Option (Bool × Unit)) :=
  (Option.bind (bif (decide ((Sp13.chkT (a0, (a1, ()))) = 0)) then (some ((Sp13.hasR a0 a2), ())) else (some (false, ()))) (fun y3 => (some y3)))
theorem g104_eq (a0 : (@List (Int × (Bool × Unit)))) (a1 : (@List Sp13.Lk)) (a2 : Int) : (evF (fun _ _ => Loop) E104 G104 Go.Proofs.Tryd.f104 plan104 c104 ((), ((a0, (a1, ())), (a2, ())))).den = g104 a0 a1 a2 := by kernel_rfl

noncomputable def g65w2 (a0 : (@List (Int × ((List Int) × Unit)))) (a1 : Int) (a2 : Int) (a3 : Int) (a4 : (@List (Int × ((List Int) × Unit)))) : (Option (Bool × Unit)) :=
  (some ((decide ((Sp13.idx (Sp13.selfW a1) a0) ≥ 0)), ()))
theorem g65w2_eq (a0 : (@List (Int × ((List Int) × Unit)))) (a1 : Int) (a2 : Int) (a3 : Int) (a4 : (@List (Int × ((List Int) × Unit)))) : (evF (fun _ _ => Loop) E65w2 G65w2 Go.Proofs.Tryd.f65 plan65w2 c65w2 ((), (a0, ((a1, (a2, (a3, (a4, ())))), ())))).den = g65w2 a0 a1 a2 a3 a4 := by kernel_rfl

noncomputable def g94 (a0 : Int) : (Option (Int × Unit)) :=
  (bif (!(Sp13.vlen a0)) then (some (0, ())) else (bif (decide (0 ≤ (IntKind.wrap .i64 (64 - a0)))) then (some ((@Int.fdiv 18446744073709551615 (@Int.pow 2 (@Min.min Nat instMinNat (Int.toNat (IntKind.wrap .i64 (64 - a0))) 64))), ())) else none))
theorem g94_eq (a0 : Int) : (evF (fun _ _ => Loop) E94 G94 Go.Proofs.Tryd.f94 plan94 c94 ((), (a0, ()))).den = g94 a0 := by kernel_rfl

noncomputable def g102 (a0 : (@List (Int × (Bool × Unit)))) (a1 : (@List Sp13.Lk)) (a2 : Int) (a3 : Int) : (Option ((List Int) × Unit)) :=
  Sp13.r102 a0 a1 a2 a3
theorem g102_eq (a0 : (@List (Int × (Bool × Unit)))) (a1 : (@List Sp13.Lk)) (a2 : Int) (a3 : Int) : (evF (fun _ _ => Loop) E102 G102 Go.Proofs.Tryd.f102 plan102 c102 ((), ((a0, (a1, ())), (a2, (a3, ()))))).den = g102 a0 a1 a2 a3 := by kernel_rfl

noncomputable def g105 (a0 : (@List (Int × (Bool × Unit)))) (a1 : (@List Sp13.Lk)) (a2 : Int) : (Option ((List Int) × Unit)) :=
  Sp13.r105 a0 a1 a2
theorem g105_eq (a0 : (@List (Int × (Bool × Unit)))) (a1 : (@List Sp13.Lk)) (a2 : Int) : (evF (fun _ _ => Loop) E105 G105 Go.Proofs.Tryd.f105 plan105 c105 ((), ((a0, (a1, ())), (a2, ())))).den = g105 a0 a1 a2 := by kernel_rfl

noncomputable def g37 (a0 : Int) : (Option (Int × Unit)) :=
  (bif (decide (a0 = 0)) then (some ((-1 : Int), ())) else (Option.bind (Sp13.on (!(decide (a0 = 0))) ((Sp13.Bt.nth a0 0), ())) (fun y1 => (some y1))))
theorem g37_eq (a0 : Int) : (evF (fun _ _ => Loop) E37 G37 Go.Proofs.Tryd.f37 plan37 c37 ((), (a0, ()))).den = g37 a0 := by kernel_rfl

noncomputable def g26 (a0 : (List Int)) (a1 : Int) (a2 : Int) : (Option (Sp13.Tb × Sp13.Tp)) :=
  Sp13.r26 a0 a1 a2
theorem g26_eq (a0 : (List Int)) (a1 : Int) (a2 : Int) : (evF (fun _ _ => Loop) E26 G26 Go.Proofs.Tryd.f26 plan26 c26 ((a0, (a1, ())), (a2, ()))).den = g26 a0 a1 a2 := by kernel_rfl

noncomputable def g70 (a0 : (List Int)) (a1 : Int) : (Option (Bool × Unit)) :=
  (some ((decide ((Sp13.idx (fun y2 => (decide (a1 = y2))) a0) ≥ 0)), ()))
theorem g70_eq (a0 : (List Int)) (a1 : Int) : (evF (fun _ _ => Loop) E70 G70 Go.Proofs.Tryd.f70 plan70 c70 ((), (a0, (a1, ())))).den = g70 a0 a1 := by kernel_rfl

noncomputable def g67 (a0 : Int) (a1 : (List Int)) : (Option (Bool × Unit)) :=
  (some ((decide ((Int.ofNat a1.length) > 24)), ()))
theorem g67_eq (a0 : Int) (a1 : (List Int)) : (evF (fun _ _ => Loop) E67 G67 Go.Proofs.Tryd.f67 plan67 c67 ((), ((a0, (a1, ())), ()))).den = g67 a0 a1 := by kernel_rfl
end Go.Abs.C13
