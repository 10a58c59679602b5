/-
  Plain data of the layers 24 to 28, their cells, and facts on the program's types.
-/
import Derived.Test.YtabpapdickolgaaRows
import Derived.Test.YtabpapdickolgaaReg
namespace Go.Proofs.Ytabpapdickolgaa
open Go.RowKit
set_option linter.unusedSimpArgs false
set_option linter.unusedVariables false

theorem ret_int {k : IntKind} {a b : Int} (h : a = b) : Ending.returned (.int k a) = .returned (.int k b) := by rw [h]
theorem ret_bool {a b : Bool} (h : a = b) : Ending.returned (.bool a) = .returned (.bool b) := by rw [h]

/-- A change. -/
structure Ch where
  epoch : Int
  seq : Int
  kind : Int
  client : Int
  number : Int
  item : Int
  key : ByteArray
  value : ByteArray
def Ch.cells (x : Ch) : List Value := [.int .i64 x.epoch, .int .i64 x.seq, .int .i64 x.kind, .int .i64 x.client, .int .i64 x.number, .int .i64 x.item, .string x.key, .string x.value]
def Ch.val (x : Ch) : Value := .agg x.cells.toArray
/-- A reply. -/
structure Rep where
  err : Int
  seq : Int
  item : Int
  value : ByteArray
def Rep.cells (x : Rep) : List Value := [.int .i64 x.err, .int .i64 x.seq, .int .i64 x.item, .string x.value]
/-- A key with its value and the number of the change that wrote it. -/
structure Ce where
  key : ByteArray
  value : ByteArray
  seq : Int
def Ce.cells (x : Ce) : List Value := [.string x.key, .string x.value, .int .i64 x.seq]
/-- An item. -/
structure It where
  number : Int
  value : ByteArray
def It.cells (x : It) : List Value := [.int .i64 x.number, .string x.value]
/-- A lease. -/
structure Le where
  item : Int
  client : Int
  epoch : Int
  until_ : Int
def Le.cells (x : Le) : List Value := [.int .i64 x.item, .int .i64 x.client, .int .i64 x.epoch, .int .i64 x.until_]

theorem Try.infoCh : (Try.prog.info? 23).map (fun i => (i.zero, i.size, i.bytes)) = some (some (.agg #[.int .i64 0, .int .i64 0, .int .i64 0, .int .i64 0, .int .i64 0, .int .i64 0, .string ⟨#[]⟩, .string ⟨#[]⟩]), 8, 80) := by kernel_rfl
theorem Try.infoCe : (Try.prog.info? 93).map (fun i => (i.zero, i.size, i.bytes)) = some (some (.agg #[.string ⟨#[]⟩, .string ⟨#[]⟩, .int .i64 0]), 3, 40) := by kernel_rfl
theorem Try.infoIt : (Try.prog.info? 127).map (fun i => (i.zero, i.size, i.bytes)) = some (some (.agg #[.int .i64 0, .string ⟨#[]⟩]), 2, 24) := by kernel_rfl
theorem Try.infoLe : (Try.prog.info? 146).map (fun i => (i.zero, i.size, i.bytes)) = some (some (.agg #[.int .i64 0, .int .i64 0, .int .i64 0, .int .i64 0]), 4, 32) := by kernel_rfl

/-- A queue: its items, its leases, the greatest number that was pushed. -/
structure Qu where
  l : List It
  r : List Le
  most : Int
def Qu.lcells (q : Qu) : List Value := q.l.flatMap It.cells
def Qu.rcells (q : Qu) : List Value := q.r.flatMap Le.cells
theorem It.one (l : List It) : ∀ u ∈ l.flatMap It.cells, u.oneCell' = true := by
  intro u hu
  obtain ⟨x, _, hx⟩ := List.mem_flatMap.1 hu
  simp [It.cells] at hx
  rcases hx with rfl | rfl <;> rfl
theorem Le.one (l : List Le) : ∀ u ∈ l.flatMap Le.cells, u.oneCell' = true := by
  intro u hu
  obtain ⟨x, _, hx⟩ := List.mem_flatMap.1 hu
  simp [Le.cells] at hx
  rcases hx with rfl | rfl | rfl | rfl <;> rfl
theorem Ch.one (l : List Ch) : ∀ u ∈ l.flatMap Ch.cells, u.oneCell' = true := by
  intro u hu
  obtain ⟨x, _, hx⟩ := List.mem_flatMap.1 hu
  simp [Ch.cells] at hx
  rcases hx with rfl | rfl | rfl | rfl | rfl | rfl | rfl | rfl <;> rfl
theorem Ce.one (l : List Ce) : ∀ u ∈ l.flatMap Ce.cells, u.oneCell' = true := by
  intro u hu
  obtain ⟨x, _, hx⟩ := List.mem_flatMap.1 hu
  simp [Ce.cells] at hx
  rcases hx with rfl | rfl | rfl <;> rfl

/-- Block g is the reference's queue q. -/
def QAt (w : World) (g : Nat) (q : Qu) : Prop :=
  ∃ vl vr, Blk w g 106 #[vl, vr, .int .i64 q.most] ∧ Sli w 127 2 q.l.length vl (q.l.flatMap It.cells) ∧ Sli w 146 4 q.r.length vr (q.r.flatMap Le.cells)

end Go.Proofs.Ytabpapdickolgaa
