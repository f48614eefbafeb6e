import Derived.Test.YtpdhdpefdgndeaaWMHB
set_option maxRecDepth 100000
set_option maxHeartbeats 4000000
set_option linter.unusedVariables false
set_option linter.unusedSimpArgs false
namespace Go.Proofs.Ytpdhdpefdgndeaa
open Go.RowKit Go.Proofs.YtpdhdpefdgndeaaW.PrintLast
noncomputable def m_law06_awake  : Option Bool :=
  (m_message_Query 7 (⟨(⟨#[1, 97, 0]⟩ : ByteArray), 1, 1⟩ : GQuestion)).bind fun x2 =>
  (m_message_Bytes x2).bind fun (z20 : ByteArray × Int) =>
  (mkL 1 12 0).bind fun l21 =>
  (m_message_Read (strOfNums l21)).bind fun (z39 : GMessage × Int) =>
  (mkL 1 11 0).bind fun l41 =>
  (m_message_Read (strOfNums l41)).bind fun (z59 : GMessage × Int) =>
  (mkL 1 13 0).bind fun l61 =>
  (m_message_Read (strOfNums l61)).bind fun (z79 : GMessage × Int) =>
  (m_message_Query 7 (⟨(⟨#[1, 97, 0]⟩ : ByteArray), 1, 1⟩ : GQuestion)).bind fun x81 =>
  (m_message_Reply x81 3).bind fun x96 =>
  if z20.1 = (⟨#[0, 7, 0, 0, 0, 1, 0, 0, 0, 0, 0, 0, 1, 97, 0, 0, 1, 0, 1]⟩ : ByteArray) then
    if z20.2 = 0 then
      if z39.2 = 0 then
        if z59.2 = 10 then
          if z79.2 = 10 then
            if x96.fResponse = true then
              if x96.fCode = 3 then
                (m_message_Query 7 (⟨(⟨#[1, 97, 0]⟩ : ByteArray), 1, 1⟩ : GQuestion)).bind fun x167 =>
                (m_message_Matches x167 x96).bind fun x182 =>
                some x182
              else
                some false
            else
              some false
          else
            some false
        else
          some false
      else
        some false
    else
      some false
  else
    some false
theorem c_law06_awake {w0 : World} {M : Nat → Prop} {H : List (Nat × Nat × Obj)} {R : List (Nat × Row)} {φ : World → Prop}  (r : Bool) (hm : m_law06_awake = some r) :
    Cn Try.prog 38 #[] ⟨w0, M, H, R, φ⟩ (fun x : Unit => .bool r) (fun x => True) (fun x => ⟨w0, M, H, R, φ⟩) := by
 unfold m_law06_awake at hm
 refine cn_intro (fn := Try.f38) (N := 72) Try.func38 rfl Try.ntmps38 rfl <| c_seq <| c_region <| g_v rfl r_assign <| g_nil <| d_then <| c_seq <| c_region <| g_v rfl (r_build _ rfl (bld74_0 _ _ _)) ?_
 refine g_e rfl (e_alloc 100010 Try.zeroValue74) (fun g1 _ => ?_)
 refine g_storeL (tag := 100010) rfl rfl rfl rfl Try.sizeOf74 rfl rfl <| g_nil <| d_then <| c_seq <| c_region <| g_v rfl (r_loadA (tag := 100010) rfl rfl Try.isAgg74 Try.sizeOf74 rfl rfl) ?_
 replace hm := bnd hm
 obtain ⟨x2, hx3, hm⟩ := hm
 refine g_cn ⟨w0, M, _, _, φ⟩ (fun _ h => h) Try.call51 rfl rfl (c_message_Query 7 (⟨(⟨#[1, 97, 0]⟩ : ByteArray), 1, 1⟩ : GQuestion) _ hx3) (fun ⟨A4, c5, A7, c8, A10, c11, A13, c14⟩ ⟨hc5, hc8, hc11, hc14⟩ => ?_)
 refine g_abs (fun φ16 q16' => ?_)
 have q16 : ∀ W, φ16 W → φ W := fun W h => (q16' W h).1
 have f6 := fun (W : World) (h : φ16 W) => (q16' W h).2.1
 have f9 := fun (W : World) (h : φ16 W) => (q16' W h).2.2.1
 have f12 := fun (W : World) (h : φ16 W) => (q16' W h).2.2.2.1
 have f15 := fun (W : World) (h : φ16 W) => (q16' W h).2.2.2.2
 replace hm := bnd hm
 obtain ⟨⟨x17, x18⟩, hx19, hm⟩ := hm
 refine g_cn ⟨w0, M, _, _, φ16⟩ (fun _ h => h) Try.call40 rfl rfl (c_message_Bytes x2 A4 c5 hc5 (fun W hS => f6 W hS.now) A7 c8 hc8 (fun W h => f9 W h) A10 c11 hc11 (fun W h => f12 W h) A13 c14 hc14 (fun W h => f15 W h) _ hx19) (fun _ _ => ?_)
 refine g_v rfl r_move <| g_v rfl (r_extract rfl rfl) <| g_v rfl (r_extract rfl rfl) <| g_v rfl r_assign <| g_v rfl r_assign <| g_nil <| d_then ?_
 refine c_flat [(1, .pointer (some ⟨g1, 0, none⟩)), (2, .string x17), (3, .int .i64 x18)] ⟨rfl, rfl, rfl, trivial⟩ (fun u => ?_)
 refine c_sta ⟨w0, M, (100010, g1, .cells #[.string (⟨#[1, 97, 0]⟩ : ByteArray), .int .u16 1, .int .u16 1] 74 (0, 0)) :: H, R, φ16⟩ (fun _ h => h) <| c_seq <| c_region ?_
 replace hm := bnd hm
 obtain ⟨l21, hl21, hm⟩ := hm
 refine g_e rfl (e_make (tag := 11) (enc := (fun x : Int => [Value.int .u8 x])) Try.underlying77 inf5_5 rfl rfl rfl rfl hl21) (fun g22 _ => ?_)
 refine g_v rfl (r_textE Try.underlying77 Try.underlying5 Try.underlying9 rfl (fun W hS => rowCl (tag := 11) rfl W hS)) ?_
 replace hm := bnd hm
 obtain ⟨⟨x23, x24⟩, hx25, hm⟩ := hm
 refine g_cn ⟨w0, M, _, _, φ16⟩ (fun _ h => h) Try.call43 rfl rfl (c_message_Read (strOfNums l21) _ hx25) (fun ⟨A26, c27, A29, c30, A32, c33, A35, c36⟩ ⟨hc27, hc30, hc33, hc36⟩ => ?_)
 refine g_abs (fun φ38 q38' => ?_)
 have q38 : ∀ W, φ38 W → φ16 W := fun W h => (q38' W h).1
 have f28 := fun (W : World) (h : φ38 W) => (q38' W h).2.1
 have f31 := fun (W : World) (h : φ38 W) => (q38' W h).2.2.1
 have f34 := fun (W : World) (h : φ38 W) => (q38' W h).2.2.2.1
 have f37 := fun (W : World) (h : φ38 W) => (q38' W h).2.2.2.2
 refine g_v rfl r_move <| g_v rfl (r_extract rfl rfl) <| g_v rfl (r_extract rfl rfl) ?_
 refine g_e rfl (e_alloc 100040 Try.zeroValue62) (fun g40 _ => ?_)
 refine g_storeL (tag := 100040) rfl rfl rfl rfl Try.sizeOf62 rfl rfl <| g_v rfl r_assign <| g_nil <| d_then ?_
 refine c_flat [(1, .pointer (some ⟨g1, 0, none⟩)), (2, .string x17), (3, .int .i64 x18), (5, .int .i64 x24)] ⟨rfl, rfl, rfl, rfl, trivial⟩ (fun u => ?_)
 refine c_sta ⟨w0, M, (100040, g40, .cells #[.int .u16 x23.fID, .bool x23.fResponse, .bool x23.fAuthoritative, .bool x23.fTruncated, .bool x23.fDesired, .bool x23.fAvailable, .int .i64 x23.fOpcode, .int .i64 x23.fCode, .slice A26 x23.fQuestions.length c27, .slice A29 x23.fAnswers.length c30, .slice A32 x23.fAuthorities.length c33, .slice A35 x23.fExtras.length c36] 62 (0, 0)) :: (100010, g1, .cells #[.string (⟨#[1, 97, 0]⟩ : ByteArray), .int .u16 1, .int .u16 1] 74 (0, 0)) :: H, (11, ⟨.slice (some ⟨g22, 0, none⟩) l21.length l21.length, 5, 1, l21.length, l21.flatMap (fun x : Int => [Value.int .u8 x])⟩) :: R, φ38⟩ (fun _ h => h) <| c_seq <| c_region ?_
 replace hm := bnd hm
 obtain ⟨l41, hl41, hm⟩ := hm
 refine g_e rfl (e_make (tag := 12) (enc := (fun x : Int => [Value.int .u8 x])) Try.underlying77 inf5_5 rfl rfl rfl rfl hl41) (fun g42 _ => ?_)
 refine g_v rfl (r_textE Try.underlying77 Try.underlying5 Try.underlying9 rfl (fun W hS => rowCl (tag := 12) rfl W hS)) ?_
 replace hm := bnd hm
 obtain ⟨⟨x43, x44⟩, hx45, hm⟩ := hm
 refine g_cn ⟨w0, M, _, _, φ38⟩ (fun _ h => h) Try.call43 rfl rfl (c_message_Read (strOfNums l41) _ hx45) (fun ⟨A46, c47, A49, c50, A52, c53, A55, c56⟩ ⟨hc47, hc50, hc53, hc56⟩ => ?_)
 refine g_abs (fun φ58 q58' => ?_)
 have q58 : ∀ W, φ58 W → φ38 W := fun W h => (q58' W h).1
 have f48 := fun (W : World) (h : φ58 W) => (q58' W h).2.1
 have f51 := fun (W : World) (h : φ58 W) => (q58' W h).2.2.1
 have f54 := fun (W : World) (h : φ58 W) => (q58' W h).2.2.2.1
 have f57 := fun (W : World) (h : φ58 W) => (q58' W h).2.2.2.2
 refine g_v rfl r_move <| g_v rfl (r_extract rfl rfl) <| g_v rfl (r_extract rfl rfl) ?_
 refine g_e rfl (e_alloc 100060 Try.zeroValue62) (fun g60 _ => ?_)
 refine g_storeL (tag := 100060) rfl rfl rfl rfl Try.sizeOf62 rfl rfl <| g_v rfl r_assign <| g_nil <| d_then ?_
 refine c_flat [(1, .pointer (some ⟨g1, 0, none⟩)), (2, .string x17), (3, .int .i64 x18), (5, .int .i64 x24), (7, .int .i64 x44)] ⟨rfl, rfl, rfl, rfl, rfl, trivial⟩ (fun u => ?_)
 refine c_sta ⟨w0, M, (100060, g60, .cells #[.int .u16 x43.fID, .bool x43.fResponse, .bool x43.fAuthoritative, .bool x43.fTruncated, .bool x43.fDesired, .bool x43.fAvailable, .int .i64 x43.fOpcode, .int .i64 x43.fCode, .slice A46 x43.fQuestions.length c47, .slice A49 x43.fAnswers.length c50, .slice A52 x43.fAuthorities.length c53, .slice A55 x43.fExtras.length c56] 62 (0, 0)) :: (100040, g40, .cells #[.int .u16 x23.fID, .bool x23.fResponse, .bool x23.fAuthoritative, .bool x23.fTruncated, .bool x23.fDesired, .bool x23.fAvailable, .int .i64 x23.fOpcode, .int .i64 x23.fCode, .slice A26 x23.fQuestions.length c27, .slice A29 x23.fAnswers.length c30, .slice A32 x23.fAuthorities.length c33, .slice A35 x23.fExtras.length c36] 62 (0, 0)) :: (100010, g1, .cells #[.string (⟨#[1, 97, 0]⟩ : ByteArray), .int .u16 1, .int .u16 1] 74 (0, 0)) :: H, (12, ⟨.slice (some ⟨g42, 0, none⟩) l41.length l41.length, 5, 1, l41.length, l41.flatMap (fun x : Int => [Value.int .u8 x])⟩) :: (11, ⟨.slice (some ⟨g22, 0, none⟩) l21.length l21.length, 5, 1, l21.length, l21.flatMap (fun x : Int => [Value.int .u8 x])⟩) :: R, φ58⟩ (fun _ h => h) <| c_seq <| c_region ?_
 replace hm := bnd hm
 obtain ⟨l61, hl61, hm⟩ := hm
 refine g_e rfl (e_make (tag := 13) (enc := (fun x : Int => [Value.int .u8 x])) Try.underlying77 inf5_5 rfl rfl rfl rfl hl61) (fun g62 _ => ?_)
 refine g_v rfl (r_textE Try.underlying77 Try.underlying5 Try.underlying9 rfl (fun W hS => rowCl (tag := 13) rfl W hS)) ?_
 replace hm := bnd hm
 obtain ⟨⟨x63, x64⟩, hx65, hm⟩ := hm
 refine g_cn ⟨w0, M, _, _, φ58⟩ (fun _ h => h) Try.call43 rfl rfl (c_message_Read (strOfNums l61) _ hx65) (fun ⟨A66, c67, A69, c70, A72, c73, A75, c76⟩ ⟨hc67, hc70, hc73, hc76⟩ => ?_)
 refine g_abs (fun φ78 q78' => ?_)
 have q78 : ∀ W, φ78 W → φ58 W := fun W h => (q78' W h).1
 have f68 := fun (W : World) (h : φ78 W) => (q78' W h).2.1
 have f71 := fun (W : World) (h : φ78 W) => (q78' W h).2.2.1
 have f74 := fun (W : World) (h : φ78 W) => (q78' W h).2.2.2.1
 have f77 := fun (W : World) (h : φ78 W) => (q78' W h).2.2.2.2
 refine g_v rfl r_move <| g_v rfl (r_extract rfl rfl) <| g_v rfl (r_extract rfl rfl) ?_
 refine g_e rfl (e_alloc 100080 Try.zeroValue62) (fun g80 _ => ?_)
 refine g_storeL (tag := 100080) rfl rfl rfl rfl Try.sizeOf62 rfl rfl <| g_v rfl r_assign <| g_nil <| d_then ?_
 refine c_flat [(1, .pointer (some ⟨g1, 0, none⟩)), (2, .string x17), (3, .int .i64 x18), (5, .int .i64 x24), (7, .int .i64 x44), (9, .int .i64 x64)] ⟨rfl, rfl, rfl, rfl, rfl, rfl, trivial⟩ (fun u => ?_)
 refine c_sta ⟨w0, M, (100080, g80, .cells #[.int .u16 x63.fID, .bool x63.fResponse, .bool x63.fAuthoritative, .bool x63.fTruncated, .bool x63.fDesired, .bool x63.fAvailable, .int .i64 x63.fOpcode, .int .i64 x63.fCode, .slice A66 x63.fQuestions.length c67, .slice A69 x63.fAnswers.length c70, .slice A72 x63.fAuthorities.length c73, .slice A75 x63.fExtras.length c76] 62 (0, 0)) :: (100060, g60, .cells #[.int .u16 x43.fID, .bool x43.fResponse, .bool x43.fAuthoritative, .bool x43.fTruncated, .bool x43.fDesired, .bool x43.fAvailable, .int .i64 x43.fOpcode, .int .i64 x43.fCode, .slice A46 x43.fQuestions.length c47, .slice A49 x43.fAnswers.length c50, .slice A52 x43.fAuthorities.length c53, .slice A55 x43.fExtras.length c56] 62 (0, 0)) :: (100040, g40, .cells #[.int .u16 x23.fID, .bool x23.fResponse, .bool x23.fAuthoritative, .bool x23.fTruncated, .bool x23.fDesired, .bool x23.fAvailable, .int .i64 x23.fOpcode, .int .i64 x23.fCode, .slice A26 x23.fQuestions.length c27, .slice A29 x23.fAnswers.length c30, .slice A32 x23.fAuthorities.length c33, .slice A35 x23.fExtras.length c36] 62 (0, 0)) :: (100010, g1, .cells #[.string (⟨#[1, 97, 0]⟩ : ByteArray), .int .u16 1, .int .u16 1] 74 (0, 0)) :: H, (13, ⟨.slice (some ⟨g62, 0, none⟩) l61.length l61.length, 5, 1, l61.length, l61.flatMap (fun x : Int => [Value.int .u8 x])⟩) :: (12, ⟨.slice (some ⟨g42, 0, none⟩) l41.length l41.length, 5, 1, l41.length, l41.flatMap (fun x : Int => [Value.int .u8 x])⟩) :: (11, ⟨.slice (some ⟨g22, 0, none⟩) l21.length l21.length, 5, 1, l21.length, l21.flatMap (fun x : Int => [Value.int .u8 x])⟩) :: R, φ78⟩ (fun _ h => h) <| c_seq <| c_region <| g_v rfl (r_loadA (tag := 100010) rfl rfl Try.isAgg74 Try.sizeOf74 rfl rfl) ?_
 replace hm := bnd hm
 obtain ⟨x81, hx82, hm⟩ := hm
 refine g_cn ⟨w0, M, _, _, φ78⟩ (fun _ h => h) Try.call51 rfl rfl (c_message_Query 7 (⟨(⟨#[1, 97, 0]⟩ : ByteArray), 1, 1⟩ : GQuestion) _ hx82) (fun ⟨A83, c84, A86, c87, A89, c90, A92, c93⟩ ⟨hc84, hc87, hc90, hc93⟩ => ?_)
 refine g_abs (fun φ95 q95' => ?_)
 have q95 : ∀ W, φ95 W → φ78 W := fun W h => (q95' W h).1
 have f85 := fun (W : World) (h : φ95 W) => (q95' W h).2.1
 have f88 := fun (W : World) (h : φ95 W) => (q95' W h).2.2.1
 have f91 := fun (W : World) (h : φ95 W) => (q95' W h).2.2.2.1
 have f94 := fun (W : World) (h : φ95 W) => (q95' W h).2.2.2.2
 replace hm := bnd hm
 obtain ⟨x96, hx97, hm⟩ := hm
 refine g_cn ⟨w0, M, _, _, φ95⟩ (fun _ h => h) Try.call48 rfl rfl (c_message_Reply x81 A83 c84 hc84 (fun W hS => f85 W hS.now) A86 c87 hc87 (fun W hS => f88 W hS.now) A89 c90 hc90 (fun W hS => f91 W hS.now) A92 c93 hc93 (fun W hS => f94 W hS.now) 3 _ hx97) (fun ⟨A98, c99, A101, c102, A104, c105, A107, c108⟩ ⟨hc99, hc102, hc105, hc108⟩ => ?_)
 refine g_abs (fun φ110 q110' => ?_)
 have q110 : ∀ W, φ110 W → φ95 W := fun W h => (q110' W h).1
 have f100 := fun (W : World) (h : φ110 W) => (q110' W h).2.1
 have f103 := fun (W : World) (h : φ110 W) => (q110' W h).2.2.1
 have f106 := fun (W : World) (h : φ110 W) => (q110' W h).2.2.2.1
 have f109 := fun (W : World) (h : φ110 W) => (q110' W h).2.2.2.2
 refine g_e rfl (e_alloc 100100 Try.zeroValue62) (fun g111 _ => ?_)
 refine g_storeL (tag := 100100) rfl rfl rfl rfl Try.sizeOf62 rfl rfl <| g_nil <| d_then <| c_seq <| ga_start (n := 34) ⟨w0, M, (100100, g111, .cells #[.int .u16 x96.fID, .bool x96.fResponse, .bool x96.fAuthoritative, .bool x96.fTruncated, .bool x96.fDesired, .bool x96.fAvailable, .int .i64 x96.fOpcode, .int .i64 x96.fCode, .slice A98 x96.fQuestions.length c99, .slice A101 x96.fAnswers.length c102, .slice A104 x96.fAuthorities.length c105, .slice A107 x96.fExtras.length c108] 62 (0, 0)) :: (100080, g80, .cells #[.int .u16 x63.fID, .bool x63.fResponse, .bool x63.fAuthoritative, .bool x63.fTruncated, .bool x63.fDesired, .bool x63.fAvailable, .int .i64 x63.fOpcode, .int .i64 x63.fCode, .slice A66 x63.fQuestions.length c67, .slice A69 x63.fAnswers.length c70, .slice A72 x63.fAuthorities.length c73, .slice A75 x63.fExtras.length c76] 62 (0, 0)) :: (100060, g60, .cells #[.int .u16 x43.fID, .bool x43.fResponse, .bool x43.fAuthoritative, .bool x43.fTruncated, .bool x43.fDesired, .bool x43.fAvailable, .int .i64 x43.fOpcode, .int .i64 x43.fCode, .slice A46 x43.fQuestions.length c47, .slice A49 x43.fAnswers.length c50, .slice A52 x43.fAuthorities.length c53, .slice A55 x43.fExtras.length c56] 62 (0, 0)) :: (100040, g40, .cells #[.int .u16 x23.fID, .bool x23.fResponse, .bool x23.fAuthoritative, .bool x23.fTruncated, .bool x23.fDesired, .bool x23.fAvailable, .int .i64 x23.fOpcode, .int .i64 x23.fCode, .slice A26 x23.fQuestions.length c27, .slice A29 x23.fAnswers.length c30, .slice A32 x23.fAuthorities.length c33, .slice A35 x23.fExtras.length c36] 62 (0, 0)) :: (100010, g1, .cells #[.string (⟨#[1, 97, 0]⟩ : ByteArray), .int .u16 1, .int .u16 1] 74 (0, 0)) :: H, (13, ⟨.slice (some ⟨g62, 0, none⟩) l61.length l61.length, 5, 1, l61.length, l61.flatMap (fun x : Int => [Value.int .u8 x])⟩) :: (12, ⟨.slice (some ⟨g42, 0, none⟩) l41.length l41.length, 5, 1, l41.length, l41.flatMap (fun x : Int => [Value.int .u8 x])⟩) :: (11, ⟨.slice (some ⟨g22, 0, none⟩) l21.length l21.length, 5, 1, l21.length, l21.flatMap (fun x : Int => [Value.int .u8 x])⟩) :: R, φ110⟩ [] #[false, false, false, false, false, false, false, false, false, false, false, false, false, false, false, false, false, false, false, false, false, false, false, false, false, false, false, false, false, false, false, false, false, false] (fun W h => h.phi (fun W hφ => hφ)) mixed rfl rfl <| ga_r (i := 0) (bz 34 1) rfl (by kernel_rfl) (by decide) rfl (r_move) <| ga_r (i := 1) (bz 34 3) rfl (by kernel_rfl) (by decide) rfl (r_eqlT rfl rfl) <| ga_r (i := 2) (bz 34 7) rfl (by kernel_rfl) (by decide) rfl (r_move) ?_
 refine ga_if (t := 41) rfl (fun h160 => ?_) (fun h160 => ?_)
 ·
  replace hm := ite_t hm (of_decide_eq_true h160)
  refine ga_rG (i := 3) (bz 34 15) rfl (by kernel_rfl) (by decide) rfl rfl rfl rfl rfl h160 (r_move) <| ga_rG (i := 4) (bz 34 31) rfl (by kernel_rfl) (by decide) rfl rfl rfl rfl rfl h160 (r_eql rfl rfl) <| ga_r (i := 5) (bz 34 63) rfl (by kernel_rfl) (by decide) rfl (r_pick1 rfl h160) <| ga_r (i := 6) (bz 34 127) rfl (by kernel_rfl) (by decide) rfl (r_move) ?_
  refine ga_if (t := 45) rfl (fun h161 => ?_) (fun h161 => ?_)
  ·
   replace hm := ite_t hm (of_decide_eq_true h161)
   refine ga_rG (i := 7) (bz 34 255) rfl (by kernel_rfl) (by decide) rfl rfl rfl rfl rfl h161 (r_move) <| ga_rG (i := 8) (bz 34 511) rfl (by kernel_rfl) (by decide) rfl rfl rfl rfl rfl h161 (r_eql rfl rfl) <| ga_r (i := 9) (bz 34 1023) rfl (by kernel_rfl) (by decide) rfl (r_pick1 rfl h161) <| ga_r (i := 10) (bz 34 2047) rfl (by kernel_rfl) (by decide) rfl (r_move) ?_
   refine ga_if (t := 49) rfl (fun h162 => ?_) (fun h162 => ?_)
   ·
    replace hm := ite_t hm (of_decide_eq_true h162)
    refine ga_rG (i := 11) (bz 34 4095) rfl (by kernel_rfl) (by decide) rfl rfl rfl rfl rfl h162 (r_move) <| ga_rG (i := 12) (bz 34 8191) rfl (by kernel_rfl) (by decide) rfl rfl rfl rfl rfl h162 (r_eql rfl rfl) <| ga_r (i := 13) (bz 34 16383) rfl (by kernel_rfl) (by decide) rfl (r_pick1 rfl h162) <| ga_r (i := 14) (bz 34 32767) rfl (by kernel_rfl) (by decide) rfl (r_move) ?_
    refine ga_if (t := 53) rfl (fun h163 => ?_) (fun h163 => ?_)
    ·
     replace hm := ite_t hm (of_decide_eq_true h163)
     refine ga_rG (i := 15) (bz 34 65535) rfl (by kernel_rfl) (by decide) rfl rfl rfl rfl rfl h163 (r_move) <| ga_rG (i := 16) (bz 34 131071) rfl (by kernel_rfl) (by decide) rfl rfl rfl rfl rfl h163 (r_eql rfl rfl) <| ga_r (i := 17) (bz 34 262143) rfl (by kernel_rfl) (by decide) rfl (r_pick1 rfl h163) <| ga_r (i := 18) (bz 34 524287) rfl (by kernel_rfl) (by decide) rfl (r_move) ?_
     refine ga_if (t := 57) rfl (fun h164 => ?_) (fun h164 => ?_)
     ·
      replace hm := ite_t hm (of_decide_eq_true h164)
      refine ga_rG (i := 19) (bz 34 1048575) rfl (by kernel_rfl) (by decide) rfl rfl rfl rfl rfl h164 (r_field (n := 1) Try.underlying62 rfl Try.sizeOf4 rfl rfl) <| ga_rG (i := 20) (bz 34 2097151) rfl (by kernel_rfl) (by decide) rfl rfl rfl rfl rfl h164 (r_load (tag := 100100) rfl rfl rfl Try.isAgg4) <| ga_r (i := 21) (bz 34 4194303) rfl (by kernel_rfl) (by decide) rfl (r_pick1 rfl h164) <| ga_r (i := 22) (bz 34 8388607) rfl (by kernel_rfl) (by decide) rfl (r_move) ?_
      refine ga_if (t := 61) rfl (fun h165 => ?_) (fun h165 => ?_)
      ·
       replace hm := ite_t hm h165
       refine ga_rG (i := 23) (bz 34 16777215) rfl (by kernel_rfl) (by decide) rfl rfl rfl rfl rfl h165 (r_field (n := 7) Try.underlying62 rfl Try.sizeOf3 rfl rfl) <| ga_rG (i := 24) (bz 34 33554431) rfl (by kernel_rfl) (by decide) rfl rfl rfl rfl rfl h165 (r_load (tag := 100100) rfl rfl rfl Try.isAgg3) <| ga_rG (i := 25) (bz 34 67108863) rfl (by kernel_rfl) (by decide) rfl rfl rfl rfl rfl h165 (r_eql rfl rfl) <| ga_r (i := 26) (bz 34 134217727) rfl (by kernel_rfl) (by decide) rfl (r_pick1 rfl h165) <| ga_r (i := 27) (bz 34 268435455) rfl (by kernel_rfl) (by decide) rfl (r_move) ?_
       refine ga_if (t := 66) rfl (fun h166 => ?_) (fun h166 => ?_)
       ·
        replace hm := ite_t hm (of_decide_eq_true h166)
        refine ga_do (i := 28) (bz 34 536870911) rfl (by kernel_rfl) (fun _ _ _ _ h => h) rfl rfl rfl rfl rfl h166 (r_loadA (tag := 100010) rfl rfl Try.isAgg74 Try.sizeOf74 rfl rfl) <| ga_do (i := 30) (bz 34 1610612735) rfl (by kernel_rfl) (fun _ _ _ _ h => h) rfl rfl rfl rfl rfl h166 (r_loadA (tag := 100100) rfl rfl Try.isAgg62 Try.sizeOf62 rfl rfl) ?_
        replace hm := bnd hm
        obtain ⟨x167, hx168, hm⟩ := hm
        refine ga_cnG (first := #[]) (i := 29) (bz 34 2147483647) rfl (by kernel_rfl) (by decide) rfl rfl rfl rfl h166  ⟨w0, M, _, _, φ110⟩ (fun _ h => h) Try.call51 rfl rfl rfl (c_message_Query 7 (⟨(⟨#[1, 97, 0]⟩ : ByteArray), 1, 1⟩ : GQuestion) _ hx168) (fun ⟨A169, c170, A172, c173, A175, c176, A178, c179⟩ W ⟨hc170, hc173, hc176, hc179⟩ h => (h.phi (fun _ hh => hh.1)).phi (fun W hφ => hφ)) (fun ⟨A169, c170, A172, c173, A175, c176, A178, c179⟩ ⟨hc170, hc173, hc176, hc179⟩ => ?_)
        refine ga_abs (fun φ181 q181' => ?_)
        have q181 : ∀ W, φ181 W → φ110 W := fun W h => (q181' W h).1
        have f171 := fun (W : World) (h : φ181 W) => (q181' W h).2.1
        have f174 := fun (W : World) (h : φ181 W) => (q181' W h).2.2.1
        have f177 := fun (W : World) (h : φ181 W) => (q181' W h).2.2.2.1
        have f180 := fun (W : World) (h : φ181 W) => (q181' W h).2.2.2.2
        replace hm := bnd hm
        obtain ⟨x182, hx183, hm⟩ := hm
        refine ga_cnG (first := #[]) (i := 31) (bz 34 4294967295) rfl (by kernel_rfl) (by decide) rfl rfl rfl rfl h166  ⟨w0, M, _, _, φ181⟩ (fun _ h => h) Try.call49 rfl rfl rfl (c_message_Matches x167 A169 c170 hc170 (fun W hS => f171 W hS.now) A172 c173 hc173 (fun W hS => f174 W hS.now) A175 c176 hc176 (fun W hS => f177 W hS.now) A178 c179 hc179 (fun W hS => f180 W hS.now) x96 A98 c99 hc99 (fun W hS => f100 W (q181 _ hS.now)) A101 c102 hc102 (fun W hS => f103 W (q181 _ hS.now)) A104 c105 hc105 (fun W hS => f106 W (q181 _ hS.now)) A107 c108 hc108 (fun W hS => f109 W (q181 _ hS.now)) _ hx183) (fun _ W _ h => h.phi (fun W hφ => (q181 _ hφ))) (fun _ _ => ?_)
        refine ga_r (i := 32) (bz 34 8589934591) rfl (by kernel_rfl) (by decide) rfl (r_pick1 rfl h166) <| ga_r (i := 33) (bz 34 17179869183) rfl (by kernel_rfl) (by decide) rfl (r_assign) <| ga_done (by kernel_rfl) <| d_then ?_
        refine c_flat [(0, .bool x182)] ⟨rfl, trivial⟩ (fun u => ?_)
        refine c_sta ⟨w0, M, (100100, g111, .cells #[.int .u16 x96.fID, .bool x96.fResponse, .bool x96.fAuthoritative, .bool x96.fTruncated, .bool x96.fDesired, .bool x96.fAvailable, .int .i64 x96.fOpcode, .int .i64 x96.fCode, .slice A98 x96.fQuestions.length c99, .slice A101 x96.fAnswers.length c102, .slice A104 x96.fAuthorities.length c105, .slice A107 x96.fExtras.length c108] 62 (0, 0)) :: (100080, g80, .cells #[.int .u16 x63.fID, .bool x63.fResponse, .bool x63.fAuthoritative, .bool x63.fTruncated, .bool x63.fDesired, .bool x63.fAvailable, .int .i64 x63.fOpcode, .int .i64 x63.fCode, .slice A66 x63.fQuestions.length c67, .slice A69 x63.fAnswers.length c70, .slice A72 x63.fAuthorities.length c73, .slice A75 x63.fExtras.length c76] 62 (0, 0)) :: (100060, g60, .cells #[.int .u16 x43.fID, .bool x43.fResponse, .bool x43.fAuthoritative, .bool x43.fTruncated, .bool x43.fDesired, .bool x43.fAvailable, .int .i64 x43.fOpcode, .int .i64 x43.fCode, .slice A46 x43.fQuestions.length c47, .slice A49 x43.fAnswers.length c50, .slice A52 x43.fAuthorities.length c53, .slice A55 x43.fExtras.length c56] 62 (0, 0)) :: (100040, g40, .cells #[.int .u16 x23.fID, .bool x23.fResponse, .bool x23.fAuthoritative, .bool x23.fTruncated, .bool x23.fDesired, .bool x23.fAvailable, .int .i64 x23.fOpcode, .int .i64 x23.fCode, .slice A26 x23.fQuestions.length c27, .slice A29 x23.fAnswers.length c30, .slice A32 x23.fAuthorities.length c33, .slice A35 x23.fExtras.length c36] 62 (0, 0)) :: (100010, g1, .cells #[.string (⟨#[1, 97, 0]⟩ : ByteArray), .int .u16 1, .int .u16 1] 74 (0, 0)) :: H, (13, ⟨.slice (some ⟨g62, 0, none⟩) l61.length l61.length, 5, 1, l61.length, l61.flatMap (fun x : Int => [Value.int .u8 x])⟩) :: (12, ⟨.slice (some ⟨g42, 0, none⟩) l41.length l41.length, 5, 1, l41.length, l41.flatMap (fun x : Int => [Value.int .u8 x])⟩) :: (11, ⟨.slice (some ⟨g22, 0, none⟩) l21.length l21.length, 5, 1, l21.length, l21.flatMap (fun x : Int => [Value.int .u8 x])⟩) :: R, φ181⟩ (fun _ h => h) <| c_ret ?_
        replace hm := Option.some.inj hm
        subst hm
        refine d_retC () Try.results38 ?_ trivial (fun W h => ok_pre (H1 := [_, _, _, _, _]) (R1 := [_, _, _]) h (fun W hφ => (q16 _ (q38 _ (q58 _ (q78 _ (q95 _ (q110 _ (q181 _ hφ))))))))) (.inr rfl)
        refine res_tmp <| res_nil ?_
        exact rfl
       ·
        replace hm := ite_f hm (of_decide_eq_false h166)
        refine ga_no (i := 28) (bz 34 536870911) rfl (by kernel_rfl) (fun _ _ _ _ h => h) rfl rfl rfl rfl rfl h166 <| ga_no (i := 29) (bz 34 1073741823) rfl (by kernel_rfl) (fun _ _ _ _ h => h) rfl rfl rfl rfl rfl h166 <| ga_no (i := 30) (bz 34 2147483647) rfl (by kernel_rfl) (fun _ _ _ _ h => h) rfl rfl rfl rfl rfl h166 <| ga_no (i := 31) (bz 34 4294967295) rfl (by kernel_rfl) (fun _ _ _ _ h => h) rfl rfl rfl rfl rfl h166 <| ga_r (i := 32) (bz 34 8589934591) rfl (by kernel_rfl) (by decide) rfl (r_pick0 rfl h166) <| ga_r (i := 33) (bz 34 17179869183) rfl (by kernel_rfl) (by decide) rfl (r_assign) <| ga_done (by kernel_rfl) <| d_then ?_
        refine c_flat [(0, .bool false)] ⟨rfl, trivial⟩ (fun u => ?_)
        refine c_sta ⟨w0, M, (100100, g111, .cells #[.int .u16 x96.fID, .bool x96.fResponse, .bool x96.fAuthoritative, .bool x96.fTruncated, .bool x96.fDesired, .bool x96.fAvailable, .int .i64 x96.fOpcode, .int .i64 x96.fCode, .slice A98 x96.fQuestions.length c99, .slice A101 x96.fAnswers.length c102, .slice A104 x96.fAuthorities.length c105, .slice A107 x96.fExtras.length c108] 62 (0, 0)) :: (100080, g80, .cells #[.int .u16 x63.fID, .bool x63.fResponse, .bool x63.fAuthoritative, .bool x63.fTruncated, .bool x63.fDesired, .bool x63.fAvailable, .int .i64 x63.fOpcode, .int .i64 x63.fCode, .slice A66 x63.fQuestions.length c67, .slice A69 x63.fAnswers.length c70, .slice A72 x63.fAuthorities.length c73, .slice A75 x63.fExtras.length c76] 62 (0, 0)) :: (100060, g60, .cells #[.int .u16 x43.fID, .bool x43.fResponse, .bool x43.fAuthoritative, .bool x43.fTruncated, .bool x43.fDesired, .bool x43.fAvailable, .int .i64 x43.fOpcode, .int .i64 x43.fCode, .slice A46 x43.fQuestions.length c47, .slice A49 x43.fAnswers.length c50, .slice A52 x43.fAuthorities.length c53, .slice A55 x43.fExtras.length c56] 62 (0, 0)) :: (100040, g40, .cells #[.int .u16 x23.fID, .bool x23.fResponse, .bool x23.fAuthoritative, .bool x23.fTruncated, .bool x23.fDesired, .bool x23.fAvailable, .int .i64 x23.fOpcode, .int .i64 x23.fCode, .slice A26 x23.fQuestions.length c27, .slice A29 x23.fAnswers.length c30, .slice A32 x23.fAuthorities.length c33, .slice A35 x23.fExtras.length c36] 62 (0, 0)) :: (100010, g1, .cells #[.string (⟨#[1, 97, 0]⟩ : ByteArray), .int .u16 1, .int .u16 1] 74 (0, 0)) :: H, (13, ⟨.slice (some ⟨g62, 0, none⟩) l61.length l61.length, 5, 1, l61.length, l61.flatMap (fun x : Int => [Value.int .u8 x])⟩) :: (12, ⟨.slice (some ⟨g42, 0, none⟩) l41.length l41.length, 5, 1, l41.length, l41.flatMap (fun x : Int => [Value.int .u8 x])⟩) :: (11, ⟨.slice (some ⟨g22, 0, none⟩) l21.length l21.length, 5, 1, l21.length, l21.flatMap (fun x : Int => [Value.int .u8 x])⟩) :: R, φ110⟩ (fun _ h => h) <| c_ret ?_
        replace hm := Option.some.inj hm
        subst hm
        refine d_retC () Try.results38 ?_ trivial (fun W h => ok_pre (H1 := [_, _, _, _, _]) (R1 := [_, _, _]) h (fun W hφ => (q16 _ (q38 _ (q58 _ (q78 _ (q95 _ (q110 _ hφ)))))))) (.inr rfl)
        refine res_tmp <| res_nil ?_
        exact rfl
      ·
       replace hm := ite_f hm (bool_nt h165)
       refine ga_no (i := 23) (bz 34 16777215) rfl (by kernel_rfl) (fun _ _ _ _ h => h) rfl rfl rfl rfl rfl h165 <| ga_no (i := 24) (bz 34 33554431) rfl (by kernel_rfl) (fun _ _ _ _ h => h) rfl rfl rfl rfl rfl h165 <| ga_no (i := 25) (bz 34 67108863) rfl (by kernel_rfl) (fun _ _ _ _ h => h) rfl rfl rfl rfl rfl h165 <| ga_r (i := 26) (bz 34 134217727) rfl (by kernel_rfl) (by decide) rfl (r_pick0 rfl h165) <| ga_r (i := 27) (bz 34 268435455) rfl (by kernel_rfl) (by decide) rfl (r_move) <| ga_no (i := 28) (bz 34 536870911) rfl (by kernel_rfl) (fun _ _ _ _ h => h) rfl rfl rfl rfl rfl rfl <| ga_no (i := 29) (bz 34 1073741823) rfl (by kernel_rfl) (fun _ _ _ _ h => h) rfl rfl rfl rfl rfl rfl <| ga_no (i := 30) (bz 34 2147483647) rfl (by kernel_rfl) (fun _ _ _ _ h => h) rfl rfl rfl rfl rfl rfl <| ga_no (i := 31) (bz 34 4294967295) rfl (by kernel_rfl) (fun _ _ _ _ h => h) rfl rfl rfl rfl rfl rfl <| ga_r (i := 32) (bz 34 8589934591) rfl (by kernel_rfl) (by decide) rfl (r_pick0 rfl rfl) ?_
       refine ga_r (i := 33) (bz 34 17179869183) rfl (by kernel_rfl) (by decide) rfl (r_assign) <| ga_done (by kernel_rfl) <| d_then ?_
       refine c_flat [(0, .bool false)] ⟨rfl, trivial⟩ (fun u => ?_)
       refine c_sta ⟨w0, M, (100100, g111, .cells #[.int .u16 x96.fID, .bool x96.fResponse, .bool x96.fAuthoritative, .bool x96.fTruncated, .bool x96.fDesired, .bool x96.fAvailable, .int .i64 x96.fOpcode, .int .i64 x96.fCode, .slice A98 x96.fQuestions.length c99, .slice A101 x96.fAnswers.length c102, .slice A104 x96.fAuthorities.length c105, .slice A107 x96.fExtras.length c108] 62 (0, 0)) :: (100080, g80, .cells #[.int .u16 x63.fID, .bool x63.fResponse, .bool x63.fAuthoritative, .bool x63.fTruncated, .bool x63.fDesired, .bool x63.fAvailable, .int .i64 x63.fOpcode, .int .i64 x63.fCode, .slice A66 x63.fQuestions.length c67, .slice A69 x63.fAnswers.length c70, .slice A72 x63.fAuthorities.length c73, .slice A75 x63.fExtras.length c76] 62 (0, 0)) :: (100060, g60, .cells #[.int .u16 x43.fID, .bool x43.fResponse, .bool x43.fAuthoritative, .bool x43.fTruncated, .bool x43.fDesired, .bool x43.fAvailable, .int .i64 x43.fOpcode, .int .i64 x43.fCode, .slice A46 x43.fQuestions.length c47, .slice A49 x43.fAnswers.length c50, .slice A52 x43.fAuthorities.length c53, .slice A55 x43.fExtras.length c56] 62 (0, 0)) :: (100040, g40, .cells #[.int .u16 x23.fID, .bool x23.fResponse, .bool x23.fAuthoritative, .bool x23.fTruncated, .bool x23.fDesired, .bool x23.fAvailable, .int .i64 x23.fOpcode, .int .i64 x23.fCode, .slice A26 x23.fQuestions.length c27, .slice A29 x23.fAnswers.length c30, .slice A32 x23.fAuthorities.length c33, .slice A35 x23.fExtras.length c36] 62 (0, 0)) :: (100010, g1, .cells #[.string (⟨#[1, 97, 0]⟩ : ByteArray), .int .u16 1, .int .u16 1] 74 (0, 0)) :: H, (13, ⟨.slice (some ⟨g62, 0, none⟩) l61.length l61.length, 5, 1, l61.length, l61.flatMap (fun x : Int => [Value.int .u8 x])⟩) :: (12, ⟨.slice (some ⟨g42, 0, none⟩) l41.length l41.length, 5, 1, l41.length, l41.flatMap (fun x : Int => [Value.int .u8 x])⟩) :: (11, ⟨.slice (some ⟨g22, 0, none⟩) l21.length l21.length, 5, 1, l21.length, l21.flatMap (fun x : Int => [Value.int .u8 x])⟩) :: R, φ110⟩ (fun _ h => h) <| c_ret ?_
       replace hm := Option.some.inj hm
       subst hm
       refine d_retC () Try.results38 ?_ trivial (fun W h => ok_pre (H1 := [_, _, _, _, _]) (R1 := [_, _, _]) h (fun W hφ => (q16 _ (q38 _ (q58 _ (q78 _ (q95 _ (q110 _ hφ)))))))) (.inr rfl)
       refine res_tmp <| res_nil ?_
       exact rfl
     ·
      replace hm := ite_f hm (of_decide_eq_false h164)
      refine ga_no (i := 19) (bz 34 1048575) rfl (by kernel_rfl) (fun _ _ _ _ h => h) rfl rfl rfl rfl rfl h164 <| ga_no (i := 20) (bz 34 2097151) rfl (by kernel_rfl) (fun _ _ _ _ h => h) rfl rfl rfl rfl rfl h164 <| ga_r (i := 21) (bz 34 4194303) rfl (by kernel_rfl) (by decide) rfl (r_pick0 rfl h164) <| ga_r (i := 22) (bz 34 8388607) rfl (by kernel_rfl) (by decide) rfl (r_move) <| ga_no (i := 23) (bz 34 16777215) rfl (by kernel_rfl) (fun _ _ _ _ h => h) rfl rfl rfl rfl rfl rfl <| ga_no (i := 24) (bz 34 33554431) rfl (by kernel_rfl) (fun _ _ _ _ h => h) rfl rfl rfl rfl rfl rfl <| ga_no (i := 25) (bz 34 67108863) rfl (by kernel_rfl) (fun _ _ _ _ h => h) rfl rfl rfl rfl rfl rfl <| ga_r (i := 26) (bz 34 134217727) rfl (by kernel_rfl) (by decide) rfl (r_pick0 rfl rfl) <| ga_r (i := 27) (bz 34 268435455) rfl (by kernel_rfl) (by decide) rfl (r_move) <| ga_no (i := 28) (bz 34 536870911) rfl (by kernel_rfl) (fun _ _ _ _ h => h) rfl rfl rfl rfl rfl rfl ?_
      refine ga_no (i := 29) (bz 34 1073741823) rfl (by kernel_rfl) (fun _ _ _ _ h => h) rfl rfl rfl rfl rfl rfl <| ga_no (i := 30) (bz 34 2147483647) rfl (by kernel_rfl) (fun _ _ _ _ h => h) rfl rfl rfl rfl rfl rfl <| ga_no (i := 31) (bz 34 4294967295) rfl (by kernel_rfl) (fun _ _ _ _ h => h) rfl rfl rfl rfl rfl rfl <| ga_r (i := 32) (bz 34 8589934591) rfl (by kernel_rfl) (by decide) rfl (r_pick0 rfl rfl) <| ga_r (i := 33) (bz 34 17179869183) rfl (by kernel_rfl) (by decide) rfl (r_assign) <| ga_done (by kernel_rfl) <| d_then ?_
      refine c_flat [(0, .bool false)] ⟨rfl, trivial⟩ (fun u => ?_)
      refine c_sta ⟨w0, M, (100100, g111, .cells #[.int .u16 x96.fID, .bool x96.fResponse, .bool x96.fAuthoritative, .bool x96.fTruncated, .bool x96.fDesired, .bool x96.fAvailable, .int .i64 x96.fOpcode, .int .i64 x96.fCode, .slice A98 x96.fQuestions.length c99, .slice A101 x96.fAnswers.length c102, .slice A104 x96.fAuthorities.length c105, .slice A107 x96.fExtras.length c108] 62 (0, 0)) :: (100080, g80, .cells #[.int .u16 x63.fID, .bool x63.fResponse, .bool x63.fAuthoritative, .bool x63.fTruncated, .bool x63.fDesired, .bool x63.fAvailable, .int .i64 x63.fOpcode, .int .i64 x63.fCode, .slice A66 x63.fQuestions.length c67, .slice A69 x63.fAnswers.length c70, .slice A72 x63.fAuthorities.length c73, .slice A75 x63.fExtras.length c76] 62 (0, 0)) :: (100060, g60, .cells #[.int .u16 x43.fID, .bool x43.fResponse, .bool x43.fAuthoritative, .bool x43.fTruncated, .bool x43.fDesired, .bool x43.fAvailable, .int .i64 x43.fOpcode, .int .i64 x43.fCode, .slice A46 x43.fQuestions.length c47, .slice A49 x43.fAnswers.length c50, .slice A52 x43.fAuthorities.length c53, .slice A55 x43.fExtras.length c56] 62 (0, 0)) :: (100040, g40, .cells #[.int .u16 x23.fID, .bool x23.fResponse, .bool x23.fAuthoritative, .bool x23.fTruncated, .bool x23.fDesired, .bool x23.fAvailable, .int .i64 x23.fOpcode, .int .i64 x23.fCode, .slice A26 x23.fQuestions.length c27, .slice A29 x23.fAnswers.length c30, .slice A32 x23.fAuthorities.length c33, .slice A35 x23.fExtras.length c36] 62 (0, 0)) :: (100010, g1, .cells #[.string (⟨#[1, 97, 0]⟩ : ByteArray), .int .u16 1, .int .u16 1] 74 (0, 0)) :: H, (13, ⟨.slice (some ⟨g62, 0, none⟩) l61.length l61.length, 5, 1, l61.length, l61.flatMap (fun x : Int => [Value.int .u8 x])⟩) :: (12, ⟨.slice (some ⟨g42, 0, none⟩) l41.length l41.length, 5, 1, l41.length, l41.flatMap (fun x : Int => [Value.int .u8 x])⟩) :: (11, ⟨.slice (some ⟨g22, 0, none⟩) l21.length l21.length, 5, 1, l21.length, l21.flatMap (fun x : Int => [Value.int .u8 x])⟩) :: R, φ110⟩ (fun _ h => h) <| c_ret ?_
      replace hm := Option.some.inj hm
      subst hm
      refine d_retC () Try.results38 ?_ trivial (fun W h => ok_pre (H1 := [_, _, _, _, _]) (R1 := [_, _, _]) h (fun W hφ => (q16 _ (q38 _ (q58 _ (q78 _ (q95 _ (q110 _ hφ)))))))) (.inr rfl)
      refine res_tmp <| res_nil ?_
      exact rfl
    ·
     replace hm := ite_f hm (of_decide_eq_false h163)
     refine ga_no (i := 15) (bz 34 65535) rfl (by kernel_rfl) (fun _ _ _ _ h => h) rfl rfl rfl rfl rfl h163 <| ga_no (i := 16) (bz 34 131071) rfl (by kernel_rfl) (fun _ _ _ _ h => h) rfl rfl rfl rfl rfl h163 <| ga_r (i := 17) (bz 34 262143) rfl (by kernel_rfl) (by decide) rfl (r_pick0 rfl h163) <| ga_r (i := 18) (bz 34 524287) rfl (by kernel_rfl) (by decide) rfl (r_move) <| ga_no (i := 19) (bz 34 1048575) rfl (by kernel_rfl) (fun _ _ _ _ h => h) rfl rfl rfl rfl rfl rfl <| ga_no (i := 20) (bz 34 2097151) rfl (by kernel_rfl) (fun _ _ _ _ h => h) rfl rfl rfl rfl rfl rfl <| ga_r (i := 21) (bz 34 4194303) rfl (by kernel_rfl) (by decide) rfl (r_pick0 rfl rfl) <| ga_r (i := 22) (bz 34 8388607) rfl (by kernel_rfl) (by decide) rfl (r_move) <| ga_no (i := 23) (bz 34 16777215) rfl (by kernel_rfl) (fun _ _ _ _ h => h) rfl rfl rfl rfl rfl rfl <| ga_no (i := 24) (bz 34 33554431) rfl (by kernel_rfl) (fun _ _ _ _ h => h) rfl rfl rfl rfl rfl rfl ?_
     refine ga_no (i := 25) (bz 34 67108863) rfl (by kernel_rfl) (fun _ _ _ _ h => h) rfl rfl rfl rfl rfl rfl <| ga_r (i := 26) (bz 34 134217727) rfl (by kernel_rfl) (by decide) rfl (r_pick0 rfl rfl) <| ga_r (i := 27) (bz 34 268435455) rfl (by kernel_rfl) (by decide) rfl (r_move) <| ga_no (i := 28) (bz 34 536870911) rfl (by kernel_rfl) (fun _ _ _ _ h => h) rfl rfl rfl rfl rfl rfl <| ga_no (i := 29) (bz 34 1073741823) rfl (by kernel_rfl) (fun _ _ _ _ h => h) rfl rfl rfl rfl rfl rfl <| ga_no (i := 30) (bz 34 2147483647) rfl (by kernel_rfl) (fun _ _ _ _ h => h) rfl rfl rfl rfl rfl rfl <| ga_no (i := 31) (bz 34 4294967295) rfl (by kernel_rfl) (fun _ _ _ _ h => h) rfl rfl rfl rfl rfl rfl <| ga_r (i := 32) (bz 34 8589934591) rfl (by kernel_rfl) (by decide) rfl (r_pick0 rfl rfl) <| ga_r (i := 33) (bz 34 17179869183) rfl (by kernel_rfl) (by decide) rfl (r_assign) <| ga_done (by kernel_rfl) ?_
     refine d_then ?_
     refine c_flat [(0, .bool false)] ⟨rfl, trivial⟩ (fun u => ?_)
     refine c_sta ⟨w0, M, (100100, g111, .cells #[.int .u16 x96.fID, .bool x96.fResponse, .bool x96.fAuthoritative, .bool x96.fTruncated, .bool x96.fDesired, .bool x96.fAvailable, .int .i64 x96.fOpcode, .int .i64 x96.fCode, .slice A98 x96.fQuestions.length c99, .slice A101 x96.fAnswers.length c102, .slice A104 x96.fAuthorities.length c105, .slice A107 x96.fExtras.length c108] 62 (0, 0)) :: (100080, g80, .cells #[.int .u16 x63.fID, .bool x63.fResponse, .bool x63.fAuthoritative, .bool x63.fTruncated, .bool x63.fDesired, .bool x63.fAvailable, .int .i64 x63.fOpcode, .int .i64 x63.fCode, .slice A66 x63.fQuestions.length c67, .slice A69 x63.fAnswers.length c70, .slice A72 x63.fAuthorities.length c73, .slice A75 x63.fExtras.length c76] 62 (0, 0)) :: (100060, g60, .cells #[.int .u16 x43.fID, .bool x43.fResponse, .bool x43.fAuthoritative, .bool x43.fTruncated, .bool x43.fDesired, .bool x43.fAvailable, .int .i64 x43.fOpcode, .int .i64 x43.fCode, .slice A46 x43.fQuestions.length c47, .slice A49 x43.fAnswers.length c50, .slice A52 x43.fAuthorities.length c53, .slice A55 x43.fExtras.length c56] 62 (0, 0)) :: (100040, g40, .cells #[.int .u16 x23.fID, .bool x23.fResponse, .bool x23.fAuthoritative, .bool x23.fTruncated, .bool x23.fDesired, .bool x23.fAvailable, .int .i64 x23.fOpcode, .int .i64 x23.fCode, .slice A26 x23.fQuestions.length c27, .slice A29 x23.fAnswers.length c30, .slice A32 x23.fAuthorities.length c33, .slice A35 x23.fExtras.length c36] 62 (0, 0)) :: (100010, g1, .cells #[.string (⟨#[1, 97, 0]⟩ : ByteArray), .int .u16 1, .int .u16 1] 74 (0, 0)) :: H, (13, ⟨.slice (some ⟨g62, 0, none⟩) l61.length l61.length, 5, 1, l61.length, l61.flatMap (fun x : Int => [Value.int .u8 x])⟩) :: (12, ⟨.slice (some ⟨g42, 0, none⟩) l41.length l41.length, 5, 1, l41.length, l41.flatMap (fun x : Int => [Value.int .u8 x])⟩) :: (11, ⟨.slice (some ⟨g22, 0, none⟩) l21.length l21.length, 5, 1, l21.length, l21.flatMap (fun x : Int => [Value.int .u8 x])⟩) :: R, φ110⟩ (fun _ h => h) <| c_ret ?_
     replace hm := Option.some.inj hm
     subst hm
     refine d_retC () Try.results38 ?_ trivial (fun W h => ok_pre (H1 := [_, _, _, _, _]) (R1 := [_, _, _]) h (fun W hφ => (q16 _ (q38 _ (q58 _ (q78 _ (q95 _ (q110 _ hφ)))))))) (.inr rfl)
     refine res_tmp <| res_nil ?_
     exact rfl
   ·
    replace hm := ite_f hm (of_decide_eq_false h162)
    refine ga_no (i := 11) (bz 34 4095) rfl (by kernel_rfl) (fun _ _ _ _ h => h) rfl rfl rfl rfl rfl h162 <| ga_no (i := 12) (bz 34 8191) rfl (by kernel_rfl) (fun _ _ _ _ h => h) rfl rfl rfl rfl rfl h162 <| ga_r (i := 13) (bz 34 16383) rfl (by kernel_rfl) (by decide) rfl (r_pick0 rfl h162) <| ga_r (i := 14) (bz 34 32767) rfl (by kernel_rfl) (by decide) rfl (r_move) <| ga_no (i := 15) (bz 34 65535) rfl (by kernel_rfl) (fun _ _ _ _ h => h) rfl rfl rfl rfl rfl rfl <| ga_no (i := 16) (bz 34 131071) rfl (by kernel_rfl) (fun _ _ _ _ h => h) rfl rfl rfl rfl rfl rfl <| ga_r (i := 17) (bz 34 262143) rfl (by kernel_rfl) (by decide) rfl (r_pick0 rfl rfl) <| ga_r (i := 18) (bz 34 524287) rfl (by kernel_rfl) (by decide) rfl (r_move) <| ga_no (i := 19) (bz 34 1048575) rfl (by kernel_rfl) (fun _ _ _ _ h => h) rfl rfl rfl rfl rfl rfl <| ga_no (i := 20) (bz 34 2097151) rfl (by kernel_rfl) (fun _ _ _ _ h => h) rfl rfl rfl rfl rfl rfl ?_
    refine ga_r (i := 21) (bz 34 4194303) rfl (by kernel_rfl) (by decide) rfl (r_pick0 rfl rfl) <| ga_r (i := 22) (bz 34 8388607) rfl (by kernel_rfl) (by decide) rfl (r_move) <| ga_no (i := 23) (bz 34 16777215) rfl (by kernel_rfl) (fun _ _ _ _ h => h) rfl rfl rfl rfl rfl rfl <| ga_no (i := 24) (bz 34 33554431) rfl (by kernel_rfl) (fun _ _ _ _ h => h) rfl rfl rfl rfl rfl rfl <| ga_no (i := 25) (bz 34 67108863) rfl (by kernel_rfl) (fun _ _ _ _ h => h) rfl rfl rfl rfl rfl rfl <| ga_r (i := 26) (bz 34 134217727) rfl (by kernel_rfl) (by decide) rfl (r_pick0 rfl rfl) <| ga_r (i := 27) (bz 34 268435455) rfl (by kernel_rfl) (by decide) rfl (r_move) <| ga_no (i := 28) (bz 34 536870911) rfl (by kernel_rfl) (fun _ _ _ _ h => h) rfl rfl rfl rfl rfl rfl <| ga_no (i := 29) (bz 34 1073741823) rfl (by kernel_rfl) (fun _ _ _ _ h => h) rfl rfl rfl rfl rfl rfl <| ga_no (i := 30) (bz 34 2147483647) rfl (by kernel_rfl) (fun _ _ _ _ h => h) rfl rfl rfl rfl rfl rfl ?_
    refine ga_no (i := 31) (bz 34 4294967295) rfl (by kernel_rfl) (fun _ _ _ _ h => h) rfl rfl rfl rfl rfl rfl <| ga_r (i := 32) (bz 34 8589934591) rfl (by kernel_rfl) (by decide) rfl (r_pick0 rfl rfl) <| ga_r (i := 33) (bz 34 17179869183) rfl (by kernel_rfl) (by decide) rfl (r_assign) <| ga_done (by kernel_rfl) <| d_then ?_
    refine c_flat [(0, .bool false)] ⟨rfl, trivial⟩ (fun u => ?_)
    refine c_sta ⟨w0, M, (100100, g111, .cells #[.int .u16 x96.fID, .bool x96.fResponse, .bool x96.fAuthoritative, .bool x96.fTruncated, .bool x96.fDesired, .bool x96.fAvailable, .int .i64 x96.fOpcode, .int .i64 x96.fCode, .slice A98 x96.fQuestions.length c99, .slice A101 x96.fAnswers.length c102, .slice A104 x96.fAuthorities.length c105, .slice A107 x96.fExtras.length c108] 62 (0, 0)) :: (100080, g80, .cells #[.int .u16 x63.fID, .bool x63.fResponse, .bool x63.fAuthoritative, .bool x63.fTruncated, .bool x63.fDesired, .bool x63.fAvailable, .int .i64 x63.fOpcode, .int .i64 x63.fCode, .slice A66 x63.fQuestions.length c67, .slice A69 x63.fAnswers.length c70, .slice A72 x63.fAuthorities.length c73, .slice A75 x63.fExtras.length c76] 62 (0, 0)) :: (100060, g60, .cells #[.int .u16 x43.fID, .bool x43.fResponse, .bool x43.fAuthoritative, .bool x43.fTruncated, .bool x43.fDesired, .bool x43.fAvailable, .int .i64 x43.fOpcode, .int .i64 x43.fCode, .slice A46 x43.fQuestions.length c47, .slice A49 x43.fAnswers.length c50, .slice A52 x43.fAuthorities.length c53, .slice A55 x43.fExtras.length c56] 62 (0, 0)) :: (100040, g40, .cells #[.int .u16 x23.fID, .bool x23.fResponse, .bool x23.fAuthoritative, .bool x23.fTruncated, .bool x23.fDesired, .bool x23.fAvailable, .int .i64 x23.fOpcode, .int .i64 x23.fCode, .slice A26 x23.fQuestions.length c27, .slice A29 x23.fAnswers.length c30, .slice A32 x23.fAuthorities.length c33, .slice A35 x23.fExtras.length c36] 62 (0, 0)) :: (100010, g1, .cells #[.string (⟨#[1, 97, 0]⟩ : ByteArray), .int .u16 1, .int .u16 1] 74 (0, 0)) :: H, (13, ⟨.slice (some ⟨g62, 0, none⟩) l61.length l61.length, 5, 1, l61.length, l61.flatMap (fun x : Int => [Value.int .u8 x])⟩) :: (12, ⟨.slice (some ⟨g42, 0, none⟩) l41.length l41.length, 5, 1, l41.length, l41.flatMap (fun x : Int => [Value.int .u8 x])⟩) :: (11, ⟨.slice (some ⟨g22, 0, none⟩) l21.length l21.length, 5, 1, l21.length, l21.flatMap (fun x : Int => [Value.int .u8 x])⟩) :: R, φ110⟩ (fun _ h => h) <| c_ret ?_
    replace hm := Option.some.inj hm
    subst hm
    refine d_retC () Try.results38 ?_ trivial (fun W h => ok_pre (H1 := [_, _, _, _, _]) (R1 := [_, _, _]) h (fun W hφ => (q16 _ (q38 _ (q58 _ (q78 _ (q95 _ (q110 _ hφ)))))))) (.inr rfl)
    refine res_tmp <| res_nil ?_
    exact rfl
  ·
   replace hm := ite_f hm (of_decide_eq_false h161)
   refine ga_no (i := 7) (bz 34 255) rfl (by kernel_rfl) (fun _ _ _ _ h => h) rfl rfl rfl rfl rfl h161 <| ga_no (i := 8) (bz 34 511) rfl (by kernel_rfl) (fun _ _ _ _ h => h) rfl rfl rfl rfl rfl h161 <| ga_r (i := 9) (bz 34 1023) rfl (by kernel_rfl) (by decide) rfl (r_pick0 rfl h161) <| ga_r (i := 10) (bz 34 2047) rfl (by kernel_rfl) (by decide) rfl (r_move) <| ga_no (i := 11) (bz 34 4095) rfl (by kernel_rfl) (fun _ _ _ _ h => h) rfl rfl rfl rfl rfl rfl <| ga_no (i := 12) (bz 34 8191) rfl (by kernel_rfl) (fun _ _ _ _ h => h) rfl rfl rfl rfl rfl rfl <| ga_r (i := 13) (bz 34 16383) rfl (by kernel_rfl) (by decide) rfl (r_pick0 rfl rfl) <| ga_r (i := 14) (bz 34 32767) rfl (by kernel_rfl) (by decide) rfl (r_move) <| ga_no (i := 15) (bz 34 65535) rfl (by kernel_rfl) (fun _ _ _ _ h => h) rfl rfl rfl rfl rfl rfl <| ga_no (i := 16) (bz 34 131071) rfl (by kernel_rfl) (fun _ _ _ _ h => h) rfl rfl rfl rfl rfl rfl ?_
   refine ga_r (i := 17) (bz 34 262143) rfl (by kernel_rfl) (by decide) rfl (r_pick0 rfl rfl) <| ga_r (i := 18) (bz 34 524287) rfl (by kernel_rfl) (by decide) rfl (r_move) <| ga_no (i := 19) (bz 34 1048575) rfl (by kernel_rfl) (fun _ _ _ _ h => h) rfl rfl rfl rfl rfl rfl <| ga_no (i := 20) (bz 34 2097151) rfl (by kernel_rfl) (fun _ _ _ _ h => h) rfl rfl rfl rfl rfl rfl <| ga_r (i := 21) (bz 34 4194303) rfl (by kernel_rfl) (by decide) rfl (r_pick0 rfl rfl) <| ga_r (i := 22) (bz 34 8388607) rfl (by kernel_rfl) (by decide) rfl (r_move) <| ga_no (i := 23) (bz 34 16777215) rfl (by kernel_rfl) (fun _ _ _ _ h => h) rfl rfl rfl rfl rfl rfl <| ga_no (i := 24) (bz 34 33554431) rfl (by kernel_rfl) (fun _ _ _ _ h => h) rfl rfl rfl rfl rfl rfl <| ga_no (i := 25) (bz 34 67108863) rfl (by kernel_rfl) (fun _ _ _ _ h => h) rfl rfl rfl rfl rfl rfl <| ga_r (i := 26) (bz 34 134217727) rfl (by kernel_rfl) (by decide) rfl (r_pick0 rfl rfl) ?_
   refine ga_r (i := 27) (bz 34 268435455) rfl (by kernel_rfl) (by decide) rfl (r_move) <| ga_no (i := 28) (bz 34 536870911) rfl (by kernel_rfl) (fun _ _ _ _ h => h) rfl rfl rfl rfl rfl rfl <| ga_no (i := 29) (bz 34 1073741823) rfl (by kernel_rfl) (fun _ _ _ _ h => h) rfl rfl rfl rfl rfl rfl <| ga_no (i := 30) (bz 34 2147483647) rfl (by kernel_rfl) (fun _ _ _ _ h => h) rfl rfl rfl rfl rfl rfl <| ga_no (i := 31) (bz 34 4294967295) rfl (by kernel_rfl) (fun _ _ _ _ h => h) rfl rfl rfl rfl rfl rfl <| ga_r (i := 32) (bz 34 8589934591) rfl (by kernel_rfl) (by decide) rfl (r_pick0 rfl rfl) <| ga_r (i := 33) (bz 34 17179869183) rfl (by kernel_rfl) (by decide) rfl (r_assign) <| ga_done (by kernel_rfl) <| d_then ?_
   refine c_flat [(0, .bool false)] ⟨rfl, trivial⟩ (fun u => ?_)
   refine c_sta ⟨w0, M, (100100, g111, .cells #[.int .u16 x96.fID, .bool x96.fResponse, .bool x96.fAuthoritative, .bool x96.fTruncated, .bool x96.fDesired, .bool x96.fAvailable, .int .i64 x96.fOpcode, .int .i64 x96.fCode, .slice A98 x96.fQuestions.length c99, .slice A101 x96.fAnswers.length c102, .slice A104 x96.fAuthorities.length c105, .slice A107 x96.fExtras.length c108] 62 (0, 0)) :: (100080, g80, .cells #[.int .u16 x63.fID, .bool x63.fResponse, .bool x63.fAuthoritative, .bool x63.fTruncated, .bool x63.fDesired, .bool x63.fAvailable, .int .i64 x63.fOpcode, .int .i64 x63.fCode, .slice A66 x63.fQuestions.length c67, .slice A69 x63.fAnswers.length c70, .slice A72 x63.fAuthorities.length c73, .slice A75 x63.fExtras.length c76] 62 (0, 0)) :: (100060, g60, .cells #[.int .u16 x43.fID, .bool x43.fResponse, .bool x43.fAuthoritative, .bool x43.fTruncated, .bool x43.fDesired, .bool x43.fAvailable, .int .i64 x43.fOpcode, .int .i64 x43.fCode, .slice A46 x43.fQuestions.length c47, .slice A49 x43.fAnswers.length c50, .slice A52 x43.fAuthorities.length c53, .slice A55 x43.fExtras.length c56] 62 (0, 0)) :: (100040, g40, .cells #[.int .u16 x23.fID, .bool x23.fResponse, .bool x23.fAuthoritative, .bool x23.fTruncated, .bool x23.fDesired, .bool x23.fAvailable, .int .i64 x23.fOpcode, .int .i64 x23.fCode, .slice A26 x23.fQuestions.length c27, .slice A29 x23.fAnswers.length c30, .slice A32 x23.fAuthorities.length c33, .slice A35 x23.fExtras.length c36] 62 (0, 0)) :: (100010, g1, .cells #[.string (⟨#[1, 97, 0]⟩ : ByteArray), .int .u16 1, .int .u16 1] 74 (0, 0)) :: H, (13, ⟨.slice (some ⟨g62, 0, none⟩) l61.length l61.length, 5, 1, l61.length, l61.flatMap (fun x : Int => [Value.int .u8 x])⟩) :: (12, ⟨.slice (some ⟨g42, 0, none⟩) l41.length l41.length, 5, 1, l41.length, l41.flatMap (fun x : Int => [Value.int .u8 x])⟩) :: (11, ⟨.slice (some ⟨g22, 0, none⟩) l21.length l21.length, 5, 1, l21.length, l21.flatMap (fun x : Int => [Value.int .u8 x])⟩) :: R, φ110⟩ (fun _ h => h) <| c_ret ?_
   replace hm := Option.some.inj hm
   subst hm
   refine d_retC () Try.results38 ?_ trivial (fun W h => ok_pre (H1 := [_, _, _, _, _]) (R1 := [_, _, _]) h (fun W hφ => (q16 _ (q38 _ (q58 _ (q78 _ (q95 _ (q110 _ hφ)))))))) (.inr rfl)
   refine res_tmp <| res_nil ?_
   exact rfl
 ·
  replace hm := ite_f hm (of_decide_eq_false h160)
  refine ga_no (i := 3) (bz 34 15) rfl (by kernel_rfl) (fun _ _ _ _ h => h) rfl rfl rfl rfl rfl h160 <| ga_no (i := 4) (bz 34 31) rfl (by kernel_rfl) (fun _ _ _ _ h => h) rfl rfl rfl rfl rfl h160 <| ga_r (i := 5) (bz 34 63) rfl (by kernel_rfl) (by decide) rfl (r_pick0 rfl h160) <| ga_r (i := 6) (bz 34 127) rfl (by kernel_rfl) (by decide) rfl (r_move) <| ga_no (i := 7) (bz 34 255) rfl (by kernel_rfl) (fun _ _ _ _ h => h) rfl rfl rfl rfl rfl rfl <| ga_no (i := 8) (bz 34 511) rfl (by kernel_rfl) (fun _ _ _ _ h => h) rfl rfl rfl rfl rfl rfl <| ga_r (i := 9) (bz 34 1023) rfl (by kernel_rfl) (by decide) rfl (r_pick0 rfl rfl) <| ga_r (i := 10) (bz 34 2047) rfl (by kernel_rfl) (by decide) rfl (r_move) <| ga_no (i := 11) (bz 34 4095) rfl (by kernel_rfl) (fun _ _ _ _ h => h) rfl rfl rfl rfl rfl rfl <| ga_no (i := 12) (bz 34 8191) rfl (by kernel_rfl) (fun _ _ _ _ h => h) rfl rfl rfl rfl rfl rfl ?_
  refine ga_r (i := 13) (bz 34 16383) rfl (by kernel_rfl) (by decide) rfl (r_pick0 rfl rfl) <| ga_r (i := 14) (bz 34 32767) rfl (by kernel_rfl) (by decide) rfl (r_move) <| ga_no (i := 15) (bz 34 65535) rfl (by kernel_rfl) (fun _ _ _ _ h => h) rfl rfl rfl rfl rfl rfl <| ga_no (i := 16) (bz 34 131071) rfl (by kernel_rfl) (fun _ _ _ _ h => h) rfl rfl rfl rfl rfl rfl <| ga_r (i := 17) (bz 34 262143) rfl (by kernel_rfl) (by decide) rfl (r_pick0 rfl rfl) <| ga_r (i := 18) (bz 34 524287) rfl (by kernel_rfl) (by decide) rfl (r_move) <| ga_no (i := 19) (bz 34 1048575) rfl (by kernel_rfl) (fun _ _ _ _ h => h) rfl rfl rfl rfl rfl rfl <| ga_no (i := 20) (bz 34 2097151) rfl (by kernel_rfl) (fun _ _ _ _ h => h) rfl rfl rfl rfl rfl rfl <| ga_r (i := 21) (bz 34 4194303) rfl (by kernel_rfl) (by decide) rfl (r_pick0 rfl rfl) <| ga_r (i := 22) (bz 34 8388607) rfl (by kernel_rfl) (by decide) rfl (r_move) ?_
  refine ga_no (i := 23) (bz 34 16777215) rfl (by kernel_rfl) (fun _ _ _ _ h => h) rfl rfl rfl rfl rfl rfl <| ga_no (i := 24) (bz 34 33554431) rfl (by kernel_rfl) (fun _ _ _ _ h => h) rfl rfl rfl rfl rfl rfl <| ga_no (i := 25) (bz 34 67108863) rfl (by kernel_rfl) (fun _ _ _ _ h => h) rfl rfl rfl rfl rfl rfl <| ga_r (i := 26) (bz 34 134217727) rfl (by kernel_rfl) (by decide) rfl (r_pick0 rfl rfl) <| ga_r (i := 27) (bz 34 268435455) rfl (by kernel_rfl) (by decide) rfl (r_move) <| ga_no (i := 28) (bz 34 536870911) rfl (by kernel_rfl) (fun _ _ _ _ h => h) rfl rfl rfl rfl rfl rfl <| ga_no (i := 29) (bz 34 1073741823) rfl (by kernel_rfl) (fun _ _ _ _ h => h) rfl rfl rfl rfl rfl rfl <| ga_no (i := 30) (bz 34 2147483647) rfl (by kernel_rfl) (fun _ _ _ _ h => h) rfl rfl rfl rfl rfl rfl <| ga_no (i := 31) (bz 34 4294967295) rfl (by kernel_rfl) (fun _ _ _ _ h => h) rfl rfl rfl rfl rfl rfl <| ga_r (i := 32) (bz 34 8589934591) rfl (by kernel_rfl) (by decide) rfl (r_pick0 rfl rfl) ?_
  refine ga_r (i := 33) (bz 34 17179869183) rfl (by kernel_rfl) (by decide) rfl (r_assign) <| ga_done (by kernel_rfl) <| d_then ?_
  refine c_flat [(0, .bool false)] ⟨rfl, trivial⟩ (fun u => ?_)
  refine c_sta ⟨w0, M, (100100, g111, .cells #[.int .u16 x96.fID, .bool x96.fResponse, .bool x96.fAuthoritative, .bool x96.fTruncated, .bool x96.fDesired, .bool x96.fAvailable, .int .i64 x96.fOpcode, .int .i64 x96.fCode, .slice A98 x96.fQuestions.length c99, .slice A101 x96.fAnswers.length c102, .slice A104 x96.fAuthorities.length c105, .slice A107 x96.fExtras.length c108] 62 (0, 0)) :: (100080, g80, .cells #[.int .u16 x63.fID, .bool x63.fResponse, .bool x63.fAuthoritative, .bool x63.fTruncated, .bool x63.fDesired, .bool x63.fAvailable, .int .i64 x63.fOpcode, .int .i64 x63.fCode, .slice A66 x63.fQuestions.length c67, .slice A69 x63.fAnswers.length c70, .slice A72 x63.fAuthorities.length c73, .slice A75 x63.fExtras.length c76] 62 (0, 0)) :: (100060, g60, .cells #[.int .u16 x43.fID, .bool x43.fResponse, .bool x43.fAuthoritative, .bool x43.fTruncated, .bool x43.fDesired, .bool x43.fAvailable, .int .i64 x43.fOpcode, .int .i64 x43.fCode, .slice A46 x43.fQuestions.length c47, .slice A49 x43.fAnswers.length c50, .slice A52 x43.fAuthorities.length c53, .slice A55 x43.fExtras.length c56] 62 (0, 0)) :: (100040, g40, .cells #[.int .u16 x23.fID, .bool x23.fResponse, .bool x23.fAuthoritative, .bool x23.fTruncated, .bool x23.fDesired, .bool x23.fAvailable, .int .i64 x23.fOpcode, .int .i64 x23.fCode, .slice A26 x23.fQuestions.length c27, .slice A29 x23.fAnswers.length c30, .slice A32 x23.fAuthorities.length c33, .slice A35 x23.fExtras.length c36] 62 (0, 0)) :: (100010, g1, .cells #[.string (⟨#[1, 97, 0]⟩ : ByteArray), .int .u16 1, .int .u16 1] 74 (0, 0)) :: H, (13, ⟨.slice (some ⟨g62, 0, none⟩) l61.length l61.length, 5, 1, l61.length, l61.flatMap (fun x : Int => [Value.int .u8 x])⟩) :: (12, ⟨.slice (some ⟨g42, 0, none⟩) l41.length l41.length, 5, 1, l41.length, l41.flatMap (fun x : Int => [Value.int .u8 x])⟩) :: (11, ⟨.slice (some ⟨g22, 0, none⟩) l21.length l21.length, 5, 1, l21.length, l21.flatMap (fun x : Int => [Value.int .u8 x])⟩) :: R, φ110⟩ (fun _ h => h) <| c_ret ?_
  replace hm := Option.some.inj hm
  subst hm
  refine d_retC () Try.results38 ?_ trivial (fun W h => ok_pre (H1 := [_, _, _, _, _]) (R1 := [_, _, _]) h (fun W hφ => (q16 _ (q38 _ (q58 _ (q78 _ (q95 _ (q110 _ hφ)))))))) (.inr rfl)
  refine res_tmp <| res_nil ?_
  exact rfl
noncomputable def m_law06_short (p0 : ByteArray) (p1 : Int) : Option ByteArray :=
  if p1 < (p0.size : Int) then
    (scutHi p0 p1).bind fun s2 =>
    some s2
  else
    some p0
theorem c_law06_short {w0 : World} {M : Nat → Prop} {H : List (Nat × Nat × Obj)} {R : List (Nat × Row)} {φ : World → Prop} (p0 : ByteArray) (p1 : Int) (r : ByteArray) (hm : m_law06_short p0 p1 = some r) :
    Cn Try.prog 42 #[.string p0, .int .i64 p1] ⟨w0, M, H, R, φ⟩ (fun x : Unit => .string r) (fun x => True) (fun x => ⟨w0, M, H, R, φ⟩) := by
 unfold m_law06_short at hm
 refine cn_intro (fn := Try.f42) (N := 13) Try.func42 rfl Try.ntmps42 rfl <| c_seq <| c_region <| g_v rfl r_assign <| g_nil <| d_then <| c_seq <| c_seq <| c_region <| g_v rfl r_move ?_
 refine g_v rfl (r_len Try.underlying9 rfl) <| g_v rfl r_move <| g_v rfl (r_gtr rfl rfl) <| g_nil <| d_then ?_
 refine c_cond rfl (fun h1 => ?_) (fun h1 => ?_)
 ·
  replace hm := ite_t hm (of_decide_eq_true h1)
  refine c_seq <| c_region <| g_v rfl r_move <| g_v rfl r_move ?_
  replace hm := bnd hm
  obtain ⟨s2, hs2, hm⟩ := hm
  refine g_v rfl (r_scutHi Try.underlying9 rfl rfl hs2) <| g_v rfl r_assign <| g_nil <| d_then ?_
  refine c_flat [(4, .string s2)] ⟨rfl, trivial⟩ (fun u => ?_)
  refine c_sta ⟨w0, M, H, R, φ⟩ (fun _ h => h) <| c_ret <| d_ret_then ?_
  replace hm := Option.some.inj hm
  subst hm
  refine d_retC () Try.results42 ?_ trivial (fun W h => ok_pre (H1 := []) (R1 := []) h (fun W hφ => hφ)) (.inr rfl)
  refine res_tmp <| res_nil ?_
  exact rfl
 ·
  replace hm := ite_f hm (of_decide_eq_false h1)
  refine c_skip <| d_then <| c_seq <| c_region <| g_v rfl r_move <| g_v rfl r_assign <| g_nil <| d_then <| c_ret ?_
  replace hm := Option.some.inj hm
  subst hm
  refine d_retC () Try.results42 ?_ trivial (fun W h => ok_pre (H1 := []) (R1 := []) h (fun W hφ => hφ)) (.inr rfl)
  refine res_tmp <| res_nil ?_
  exact rfl
noncomputable def m_law06_few_j1  (l99 : List GRR) : Option (List GRR) :=
  some l99
noncomputable def m_law06_few_s2 (p0 : List GRR) (l120 : List GRR) (i123 : Int) : Option (((List GRR) × Int) ⊕ (List GRR)) :=
  if i123 < (p0.length : Int) then
    if i123 < 30 then
      (at_ p0 i123).bind fun x146 =>
      (m_law06_short x146.fName 300).bind fun x151 =>
      (m_law06_short x146.fData 2100).bind fun x153 =>
      (app 40 l120 [(⟨x151, x146.fType, x146.fClass, x146.fTTL, x153⟩ : GRR)]).bind fun l156 =>
      some (.inl (l156, w64 (i123 + 1)))
    else
      some (.inr l120)
  else
    some (.inr l120)
noncomputable def m_law06_few (p0 : List GRR) : Option (List GRR) :=
  (loop (fun s => m_law06_few_s2 p0 s.1 s.2) (([] : List GRR), 0)).bind fun e => m_law06_few_j1 e
theorem c_law06_few {w0 : World} {M : Nat → Prop} {H : List (Nat × Nat × Obj)} {R : List (Nat × Row)} {φ : World → Prop} (p0 : List GRR) (Ap0_0 : Option Addr) (cp0_0 : Nat) (hcp0_0 : p0.length ≤ cp0_0) (fp0_0 : ∀ W, (Sta.mk w0 M H R φ).ok W → Cl W Ap0_0 (p0.flatMap GRR.enc)) (r : (List GRR)) (hm : m_law06_few p0 = some r) :
    Cn Try.prog 85 #[.slice Ap0_0 p0.length cp0_0] ⟨w0, M, H, R, φ⟩ (fun x : Option Addr × Nat => .slice x.1 r.length x.2) (fun x => r.length ≤ x.2) (fun x => ⟨w0, M, H, (2000, ⟨.slice x.1 r.length x.2, 27, 5, r.length, r.flatMap GRR.enc⟩) :: R, φ⟩) := by
 unfold m_law06_few at hm
 refine cn_intro (fn := Try.f85) (N := 33) Try.func85 rfl Try.ntmps85 rfl <| c_seq <| c_region <| g_v rfl r_assign <| g_nil <| d_then <| c_seq <| c_region <| g_v rfl r_assign <| g_nil ?_
 refine d_then <| c_seq <| c_sta _ (fun W h => nilR h 13 27 5) ?_
 refine c_cut (ι := (List GRR) × Option Addr × Nat) [3] (fun ⟨l99, A100, c101⟩ => [(3, .slice A100 l99.length c101)]) (fun ⟨l99, A100, c101⟩ => ⟨w0, M, H, (13, ⟨.slice A100 l99.length c101, 27, 5, l99.length, l99.flatMap GRR.enc⟩) :: R, φ⟩) (fun ⟨l99, A100, c101⟩ => m_law06_few_j1 l99 = some r ∧ l99.length ≤ c101) ?_ (fun ⟨l99, A100, c101⟩ u ⟨hm, hc101⟩ => ?_)
 ·
  refine c_seq <| c_region <| g_v rfl r_assign <| g_nil <| d_then <| c_block ?_
  replace hm := bnd hm
  obtain ⟨out2, hl2, hr2⟩ := hm
  obtain ⟨n143', hl2⟩ := loop_lp hl2
  refine c_loopU (ι := Nat × (List GRR) × Int × Option Addr × Nat) [0, 3, 4] (fun ⟨n143, l120, i123, A121, c122⟩ => [(3, .slice A121 l120.length c122), (4, .int .i64 i123)]) (fun ⟨n143, l120, i123, A121, c122⟩ => ⟨w0, M, H, (13, ⟨.slice A121 l120.length c122, 27, 5, l120.length, l120.flatMap GRR.enc⟩) :: R, φ⟩) (fun ⟨n143, l120, i123, A121, c122⟩ => Lp (fun s => m_law06_few_s2 p0 s.1 s.2) n143 (l120, i123) out2 ∧ l120.length ≤ c122) (fun ⟨n143, l120, i123, A121, c122⟩ => n143) (n143', ([] : List GRR), 0, none, 0) ⟨hl2, (Nat.le_refl 0)⟩ ⟨rfl, rfl, rfl, trivial⟩ (fun W h => h.phi (fun W hφ => hφ)) (fun ⟨n143, l120, i123, A121, c122⟩ u ⟨hlp, hc122⟩ => ?_)
  obtain ⟨o2, hm, hnx2⟩ := lp_step hlp
  clear hlp
  replace hm : m_law06_few_s2 p0 l120 i123 = some o2 := hm
  unfold m_law06_few_s2 at hm
  refine c_flat [(0, .slice Ap0_0 p0.length cp0_0), (3, .slice A121 l120.length c122), (4, .int .i64 i123)] ⟨rfl, rfl, rfl, trivial⟩ (fun u => ?_)
  refine c_sta ⟨w0, M, H, (13, ⟨.slice A121 l120.length c122, 27, 5, l120.length, l120.flatMap GRR.enc⟩) :: R, φ⟩ (fun _ h => h) <| c_seq <| c_seq <| c_region <| g_v rfl r_move <| g_v rfl r_move <| g_v rfl (r_lenL Try.underlying32 rfl) <| g_v rfl (r_lss rfl rfl) <| g_v rfl r_move ?_
  refine g_if rfl rfl rfl rfl rfl (fun h144 => ?_) (fun h144 => ?_)
  ·
   replace hm := ite_t hm (of_decide_eq_true h144)
   refine g_v rfl r_move <| g_do rfl rfl rfl rfl rfl h144 <| g_v rfl (r_lss rfl rfl) <| g_v rfl (r_pick1 rfl h144) <| g_nil <| d_then ?_
   refine c_cond rfl (fun h145 => ?_) (fun h145 => ?_)
   ·
    replace hm := ite_t hm (of_decide_eq_true h145)
    refine c_skip <| d_then <| c_seq <| c_block <| c_seq <| c_region <| g_v rfl r_move <| g_v rfl r_move ?_
    replace hm := bnd hm
    obtain ⟨x146, hx146, hm⟩ := hm
    refine g_know _ (fun W hS => cl_at (p := (Sta.mk w0 M H R φ).ok) (sz := 5) (fun _ => rfl) (by decide) (ok_pre (H1 := []) (R1 := [_]) hS (fun W h => h)) fp0_0 hx146) ?_
    rintro ⟨ad147, hA149, f148⟩
    refine g_v rfl (r_ix Try.underlying32 Try.sizeOf27 rfl hA149 rfl hx146) <| g_v rfl (r_ldA rfl Try.isAgg27 Try.sizeOf27 (fun W hS => (f148 W (ok_pre (H1 := []) (R1 := [_]) hS (fun W h => h))).take 5) rfl) ?_
    refine g_e rfl (e_alloc 100050 Try.zeroValue27) (fun g150 _ => ?_)
    refine g_storeL (tag := 100050) rfl rfl rfl rfl Try.sizeOf27 rfl rfl <| g_nil <| d_then ?_
    refine c_flat [(0, .slice Ap0_0 p0.length cp0_0), (3, .slice A121 l120.length c122), (4, .int .i64 i123), (5, .pointer (some ⟨g150, 0, none⟩))] ⟨rfl, rfl, rfl, rfl, trivial⟩ (fun u => ?_)
    refine c_sta ⟨w0, M, (100050, g150, .cells #[.string x146.fName, .int .u16 x146.fType, .int .u16 x146.fClass, .int .u32 x146.fTTL, .string x146.fData] 27 (0, 0)) :: H, (13, ⟨.slice A121 l120.length c122, 27, 5, l120.length, l120.flatMap GRR.enc⟩) :: R, φ⟩ (fun _ h => h) <| c_seq <| c_region <| g_v rfl (r_field (n := 0) Try.underlying27 rfl Try.sizeOf9 rfl rfl) <| g_v rfl (r_load (tag := 100050) rfl rfl rfl Try.isAgg9) ?_
    replace hm := bnd hm
    obtain ⟨x151, hx152, hm⟩ := hm
    refine g_cn ⟨w0, M, _, _, φ⟩ (fun _ h => h) Try.call42 rfl rfl (c_law06_short x146.fName 300 _ hx152) (fun _ _ => ?_)
    refine g_v rfl (r_field (n := 0) Try.underlying27 rfl Try.sizeOf9 rfl rfl) <| g_storeL (tag := 100050) rfl rfl rfl rfl Try.sizeOf9 rfl rfl <| g_nil <| d_then <| c_seq <| c_region <| g_v rfl (r_field (n := 4) Try.underlying27 rfl Try.sizeOf9 rfl rfl) <| g_v rfl (r_load (tag := 100050) rfl rfl rfl Try.isAgg9) ?_
    replace hm := bnd hm
    obtain ⟨x153, hx154, hm⟩ := hm
    refine g_cn ⟨w0, M, _, _, φ⟩ (fun _ h => h) Try.call42 rfl rfl (c_law06_short x146.fData 2100 _ hx154) (fun _ _ => ?_)
    refine g_v rfl (r_field (n := 4) Try.underlying27 rfl Try.sizeOf9 rfl rfl) <| g_storeL (tag := 100050) rfl rfl rfl rfl Try.sizeOf9 rfl rfl <| g_nil <| d_then ?_
    refine c_flat [(0, .slice Ap0_0 p0.length cp0_0), (3, .slice A121 l120.length c122), (4, .int .i64 i123), (5, .pointer (some ⟨g150, 0, none⟩))] ⟨rfl, rfl, rfl, rfl, trivial⟩ (fun u => ?_)
    refine c_sta ⟨w0, M, (100050, g150, .cells #[.string x151, .int .u16 x146.fType, .int .u16 x146.fClass, .int .u32 x146.fTTL, .string x153] 27 (0, 0)) :: H, (13, ⟨.slice A121 l120.length c122, 27, 5, l120.length, l120.flatMap GRR.enc⟩) :: R, φ⟩ (fun _ h => h) <| c_region <| g_v rfl r_move <| g_v rfl (r_loadA (tag := 100050) rfl rfl Try.isAgg27 Try.sizeOf27 rfl rfl) ?_
    refine g_e rfl (e_lit (tag := 100300) (l := [(⟨x151, x146.fType, x146.fClass, x146.fTTL, x153⟩ : GRR)]) (enc := GRR.enc) (sz := 5) rfl Try.underlying32 (lit27_22 _ _ _ _ _) rfl rfl (fun _ => rfl)) (fun g155 _ => ?_)
    replace hm := bnd hm
    obtain ⟨l156, hl156, hm⟩ := hm
    refine g_e rfl (e_appR (enc := GRR.enc) (l := l120) (l1 := [(⟨x151, x146.fType, x146.fClass, x146.fTTL, x153⟩ : GRR)]) (l2 := l156) (tag := 13) Try.underlying32 inf27_23 rfl (by decide) (by decide) (fun _ => rfl) (fun _ => rfl) rfl hc122 rfl rfl (fun W hS => rowCl (tag := 100300) rfl W hS) hl156) (fun ⟨A157, c158⟩ hc158 => ?_)
    refine g_v rfl r_assign <| g_nil <| d_normal_block <| d_then <| c_region <| g_v rfl r_move <| g_v rfl (r_add rfl rfl rfl) <| g_v rfl r_assign <| g_nil ?_
    obtain ⟨n159, hn159, hlp⟩ := nx_inl hm hnx2
    exact d_round (n159, l156, w64 (i123 + 1), A157, c158) ⟨hlp, hc158⟩ hn159 ⟨rfl, rfl, rfl, trivial⟩ (fun W h => ((h.dropR (t := 100300) rfl).dropH (t := 100050) rfl).phi (fun W hφ => hφ))
   ·
    replace hm := ite_f hm (of_decide_eq_false h145)
    refine c_exit <| d_exit_then <| d_exit_then <| d_exit_block ?_
    replace hm := nx_out (C := (fun e => m_law06_few_j1 e = some r)) hm hnx2 hr2
    exact d_round (l120, A121, c122) ⟨hm, hc122⟩ Nat.zero_lt_one ⟨rfl, trivial⟩ (fun W h => h.phi (fun W hφ => hφ))
  ·
   replace hm := ite_f hm (of_decide_eq_false h144)
   refine g_no rfl rfl rfl rfl rfl h144 <| g_v rfl (r_pick0 rfl h144) <| g_nil <| d_then <| c_cond0 rfl rfl <| c_exit <| d_exit_then <| d_exit_then <| d_exit_block ?_
   replace hm := nx_out (C := (fun e => m_law06_few_j1 e = some r)) hm hnx2 hr2
   exact d_round (l120, A121, c122) ⟨hm, hc122⟩ Nat.zero_lt_one ⟨rfl, trivial⟩ (fun W h => h.phi (fun W hφ => hφ))
 ·
  unfold m_law06_few_j1 at hm
  refine d_flat [(3, .slice A100 l99.length c101)] ⟨rfl, trivial⟩ (fun u => ?_)
  refine d_sta ⟨w0, M, H, (13, ⟨.slice A100 l99.length c101, 27, 5, l99.length, l99.flatMap GRR.enc⟩) :: R, φ⟩ (fun _ h => h) <| d_then <| c_seq <| c_region <| g_v rfl r_move <| g_v rfl r_assign <| g_nil <| d_then <| c_ret ?_
  replace hm := Option.some.inj hm
  subst hm
  refine d_sta _ (fun W h => ok_frontR (t := 13) (t' := 2000) h rfl) ?_
  refine d_retC (A100, c101) Try.results85 ?_ hc101 (fun W h => h.phi (fun W hφ => hφ)) (.inr rfl)
  refine res_tmp <| res_nil ?_
  exact rfl
noncomputable def m_law06_small_j1 (p0 : GMessage) (l91 : List GQuestion) : Option GMessage :=
  (m_law06_few p0.fAnswers).bind fun x94 =>
  (m_law06_few p0.fAuthorities).bind fun x99 =>
  (m_law06_few p0.fExtras).bind fun x104 =>
  some (⟨p0.fID, p0.fResponse, p0.fAuthoritative, p0.fTruncated, p0.fDesired, p0.fAvailable, p0.fOpcode, p0.fCode, l91, x94, x99, x104⟩ : GMessage)
noncomputable def m_law06_small_s2 (p0 : GMessage) (l133 : List GQuestion) (i136 : Int) : Option (((List GQuestion) × Int) ⊕ (List GQuestion)) :=
  if i136 < (p0.fQuestions.length : Int) then
    if i136 < 30 then
      (at_ p0.fQuestions i136).bind fun x157 =>
      (m_law06_short x157.fName 300).bind fun x162 =>
      (app 24 l133 [(⟨x162, x157.fType, x157.fClass⟩ : GQuestion)]).bind fun l165 =>
      some (.inl (l165, w64 (i136 + 1)))
    else
      some (.inr l133)
  else
    some (.inr l133)
noncomputable def m_law06_small (p0 : GMessage) : Option GMessage :=
  (loop (fun s => m_law06_small_s2 p0 s.1 s.2) (([] : List GQuestion), 0)).bind fun e => m_law06_small_j1 p0 e
theorem c_law06_small {w0 : World} {M : Nat → Prop} {H : List (Nat × Nat × Obj)} {R : List (Nat × Row)} {φ : World → Prop} (p0 : GMessage) (Ap0_0 : Option Addr) (cp0_0 : Nat) (hcp0_0 : p0.fQuestions.length ≤ cp0_0) (fp0_0 : ∀ W, (Sta.mk w0 M H R φ).ok W → Cl W Ap0_0 (p0.fQuestions.flatMap GQuestion.enc)) (Ap0_1 : Option Addr) (cp0_1 : Nat) (hcp0_1 : p0.fAnswers.length ≤ cp0_1) (fp0_1 : ∀ W, (Sta.mk w0 M H R φ).ok W → Cl W Ap0_1 (p0.fAnswers.flatMap GRR.enc)) (Ap0_2 : Option Addr) (cp0_2 : Nat) (hcp0_2 : p0.fAuthorities.length ≤ cp0_2) (fp0_2 : ∀ W, (Sta.mk w0 M H R φ).ok W → Cl W Ap0_2 (p0.fAuthorities.flatMap GRR.enc)) (Ap0_3 : Option Addr) (cp0_3 : Nat) (hcp0_3 : p0.fExtras.length ≤ cp0_3) (fp0_3 : ∀ W, (Sta.mk w0 M H R φ).ok W → Cl W Ap0_3 (p0.fExtras.flatMap GRR.enc)) (r : GMessage) (hm : m_law06_small p0 = some r) :
    Cn Try.prog 39 #[.agg #[.int .u16 p0.fID, .bool p0.fResponse, .bool p0.fAuthoritative, .bool p0.fTruncated, .bool p0.fDesired, .bool p0.fAvailable, .int .i64 p0.fOpcode, .int .i64 p0.fCode, .slice Ap0_0 p0.fQuestions.length cp0_0, .slice Ap0_1 p0.fAnswers.length cp0_1, .slice Ap0_2 p0.fAuthorities.length cp0_2, .slice Ap0_3 p0.fExtras.length cp0_3]] ⟨w0, M, H, R, φ⟩ (fun x : Option Addr × Nat × Option Addr × Nat × Option Addr × Nat × Option Addr × Nat => .agg #[.int .u16 r.fID, .bool r.fResponse, .bool r.fAuthoritative, .bool r.fTruncated, .bool r.fDesired, .bool r.fAvailable, .int .i64 r.fOpcode, .int .i64 r.fCode, .slice x.1 r.fQuestions.length x.2.1, .slice x.2.2.1 r.fAnswers.length x.2.2.2.1, .slice x.2.2.2.2.1 r.fAuthorities.length x.2.2.2.2.2.1, .slice x.2.2.2.2.2.2.1 r.fExtras.length x.2.2.2.2.2.2.2]) (fun x => r.fQuestions.length ≤ x.2.1 ∧ r.fAnswers.length ≤ x.2.2.2.1 ∧ r.fAuthorities.length ≤ x.2.2.2.2.2.1 ∧ r.fExtras.length ≤ x.2.2.2.2.2.2.2) (fun x => ⟨w0, M, H, R, fun W => φ W ∧ Cl W x.1 (r.fQuestions.flatMap GQuestion.enc) ∧ Cl W x.2.2.1 (r.fAnswers.flatMap GRR.enc) ∧ Cl W x.2.2.2.2.1 (r.fAuthorities.flatMap GRR.enc) ∧ Cl W x.2.2.2.2.2.2.1 (r.fExtras.flatMap GRR.enc)⟩) := by
 unfold m_law06_small at hm
 refine cn_intro (fn := Try.f39) (N := 45) Try.func39 rfl Try.ntmps39 rfl <| c_seq <| c_region ?_
 refine g_e rfl (e_box 100010 rfl) (fun g1 _ => ?_)
 refine g_e rfl (e_alloc 100020 Try.zeroValue62) (fun g2 _ => ?_)
 refine g_nil <| d_then <| c_seq <| c_region <| g_v rfl r_assign <| g_nil <| d_then <| c_seq <| c_sta _ (fun W h => nilR h 13 74 3) ?_
 refine c_cut (ι := (List GQuestion) × Option Addr × Nat) [1, 2, 3] (fun ⟨l91, A92, c93⟩ => [(3, .slice A92 l91.length c93)]) (fun ⟨l91, A92, c93⟩ => ⟨w0, M, (100020, g2, .cells #[.int .u16 0, .bool false, .bool false, .bool false, .bool false, .bool false, .int .i64 0, .int .i64 0, .slice none 0 0, .slice none 0 0, .slice none 0 0, .slice none 0 0] 62 (0, 0)) :: (100010, g1, .cells #[.int .u16 p0.fID, .bool p0.fResponse, .bool p0.fAuthoritative, .bool p0.fTruncated, .bool p0.fDesired, .bool p0.fAvailable, .int .i64 p0.fOpcode, .int .i64 p0.fCode, .slice Ap0_0 p0.fQuestions.length cp0_0, .slice Ap0_1 p0.fAnswers.length cp0_1, .slice Ap0_2 p0.fAuthorities.length cp0_2, .slice Ap0_3 p0.fExtras.length cp0_3] 62 (0, 0)) :: H, (13, ⟨.slice A92 l91.length c93, 74, 3, l91.length, l91.flatMap GQuestion.enc⟩) :: R, φ⟩) (fun ⟨l91, A92, c93⟩ => m_law06_small_j1 p0 l91 = some r ∧ l91.length ≤ c93) ?_ (fun ⟨l91, A92, c93⟩ u ⟨hm, hc93⟩ => ?_)
 ·
  refine c_seq <| c_region <| g_v rfl r_assign <| g_nil <| d_then <| c_block ?_
  replace hm := bnd hm
  obtain ⟨out2, hl2, hr2⟩ := hm
  obtain ⟨n154', hl2⟩ := loop_lp hl2
  refine c_loopU (ι := Nat × (List GQuestion) × Int × Option Addr × Nat) [1, 2, 3, 4] (fun ⟨n154, l133, i136, A134, c135⟩ => [(3, .slice A134 l133.length c135), (4, .int .i64 i136)]) (fun ⟨n154, l133, i136, A134, c135⟩ => ⟨w0, M, (100020, g2, .cells #[.int .u16 0, .bool false, .bool false, .bool false, .bool false, .bool false, .int .i64 0, .int .i64 0, .slice none 0 0, .slice none 0 0, .slice none 0 0, .slice none 0 0] 62 (0, 0)) :: (100010, g1, .cells #[.int .u16 p0.fID, .bool p0.fResponse, .bool p0.fAuthoritative, .bool p0.fTruncated, .bool p0.fDesired, .bool p0.fAvailable, .int .i64 p0.fOpcode, .int .i64 p0.fCode, .slice Ap0_0 p0.fQuestions.length cp0_0, .slice Ap0_1 p0.fAnswers.length cp0_1, .slice Ap0_2 p0.fAuthorities.length cp0_2, .slice Ap0_3 p0.fExtras.length cp0_3] 62 (0, 0)) :: H, (13, ⟨.slice A134 l133.length c135, 74, 3, l133.length, l133.flatMap GQuestion.enc⟩) :: R, φ⟩) (fun ⟨n154, l133, i136, A134, c135⟩ => Lp (fun s => m_law06_small_s2 p0 s.1 s.2) n154 (l133, i136) out2 ∧ l133.length ≤ c135) (fun ⟨n154, l133, i136, A134, c135⟩ => n154) (n154', ([] : List GQuestion), 0, none, 0) ⟨hl2, (Nat.le_refl 0)⟩ ⟨rfl, rfl, rfl, rfl, trivial⟩ (fun W h => h.phi (fun W hφ => hφ)) (fun ⟨n154, l133, i136, A134, c135⟩ u ⟨hlp, hc135⟩ => ?_)
  obtain ⟨o2, hm, hnx2⟩ := lp_step hlp
  clear hlp
  replace hm : m_law06_small_s2 p0 l133 i136 = some o2 := hm
  unfold m_law06_small_s2 at hm
  refine c_flat [(1, .pointer (some ⟨g1, 0, none⟩)), (2, .pointer (some ⟨g2, 0, none⟩)), (3, .slice A134 l133.length c135), (4, .int .i64 i136)] ⟨rfl, rfl, rfl, rfl, trivial⟩ (fun u => ?_)
  refine c_sta ⟨w0, M, (100020, g2, .cells #[.int .u16 0, .bool false, .bool false, .bool false, .bool false, .bool false, .int .i64 0, .int .i64 0, .slice none 0 0, .slice none 0 0, .slice none 0 0, .slice none 0 0] 62 (0, 0)) :: (100010, g1, .cells #[.int .u16 p0.fID, .bool p0.fResponse, .bool p0.fAuthoritative, .bool p0.fTruncated, .bool p0.fDesired, .bool p0.fAvailable, .int .i64 p0.fOpcode, .int .i64 p0.fCode, .slice Ap0_0 p0.fQuestions.length cp0_0, .slice Ap0_1 p0.fAnswers.length cp0_1, .slice Ap0_2 p0.fAuthorities.length cp0_2, .slice Ap0_3 p0.fExtras.length cp0_3] 62 (0, 0)) :: H, (13, ⟨.slice A134 l133.length c135, 74, 3, l133.length, l133.flatMap GQuestion.enc⟩) :: R, φ⟩ (fun _ h => h) <| c_seq <| c_seq <| c_region <| g_v rfl r_move <| g_v rfl (r_field (n := 8) Try.underlying62 rfl Try.sizeOf60 rfl rfl) <| g_v rfl (r_load (tag := 100010) rfl rfl rfl Try.isAgg60) <| g_v rfl (r_lenL Try.underlying60 rfl) <| g_v rfl (r_lss rfl rfl) <| g_v rfl r_move ?_
  refine g_if rfl rfl rfl rfl rfl (fun h155 => ?_) (fun h155 => ?_)
  ·
   replace hm := ite_t hm (of_decide_eq_true h155)
   refine g_v rfl r_move <| g_do rfl rfl rfl rfl rfl h155 <| g_v rfl (r_lss rfl rfl) <| g_v rfl (r_pick1 rfl h155) <| g_nil <| d_then ?_
   refine c_flat [(1, .pointer (some ⟨g1, 0, none⟩)), (2, .pointer (some ⟨g2, 0, none⟩)), (3, .slice A134 l133.length c135), (4, .int .i64 i136), (14, .bool (decide (i136 < 30)))] ⟨rfl, rfl, rfl, rfl, rfl, trivial⟩ (fun u => ?_)
   refine c_cond rfl (fun h156 => ?_) (fun h156 => ?_)
   ·
    replace hm := ite_t hm (of_decide_eq_true h156)
    refine c_skip <| d_then <| c_seq <| c_block <| c_seq <| c_region <| g_v rfl (r_field (n := 8) Try.underlying62 rfl Try.sizeOf60 rfl rfl) <| g_v rfl (r_load (tag := 100010) rfl rfl rfl Try.isAgg60) <| g_v rfl r_move ?_
    replace hm := bnd hm
    obtain ⟨x157, hx157, hm⟩ := hm
    refine g_know _ (fun W hS => cl_at (p := (Sta.mk w0 M H R φ).ok) (sz := 3) (fun _ => rfl) (by decide) (ok_pre (H1 := [_, _]) (R1 := [_]) hS (fun W h => h)) fp0_0 hx157) ?_
    rintro ⟨ad158, hA160, f159⟩
    refine g_v rfl (r_ix Try.underlying60 Try.sizeOf74 rfl hA160 rfl hx157) <| g_v rfl (r_ldA rfl Try.isAgg74 Try.sizeOf74 (fun W hS => (f159 W (ok_pre (H1 := [_, _]) (R1 := [_]) hS (fun W h => h))).take 3) rfl) ?_
    refine g_e rfl (e_alloc 100050 Try.zeroValue74) (fun g161 _ => ?_)
    refine g_storeL (tag := 100050) rfl rfl rfl rfl Try.sizeOf74 rfl rfl <| g_nil <| d_then <| c_seq <| c_region <| g_v rfl (r_field (n := 0) Try.underlying74 rfl Try.sizeOf9 rfl rfl) <| g_v rfl (r_load (tag := 100050) rfl rfl rfl Try.isAgg9) ?_
    replace hm := bnd hm
    obtain ⟨x162, hx163, hm⟩ := hm
    refine g_cn ⟨w0, M, _, _, φ⟩ (fun _ h => h) Try.call42 rfl rfl (c_law06_short x157.fName 300 _ hx163) (fun _ _ => ?_)
    refine g_v rfl (r_field (n := 0) Try.underlying74 rfl Try.sizeOf9 rfl rfl) <| g_storeL (tag := 100050) rfl rfl rfl rfl Try.sizeOf9 rfl rfl <| g_nil <| d_then ?_
    refine c_flat [(1, .pointer (some ⟨g1, 0, none⟩)), (2, .pointer (some ⟨g2, 0, none⟩)), (3, .slice A134 l133.length c135), (4, .int .i64 i136), (5, .pointer (some ⟨g161, 0, none⟩))] ⟨rfl, rfl, rfl, rfl, rfl, trivial⟩ (fun u => ?_)
    refine c_sta ⟨w0, M, (100050, g161, .cells #[.string x162, .int .u16 x157.fType, .int .u16 x157.fClass] 74 (0, 0)) :: (100020, g2, .cells #[.int .u16 0, .bool false, .bool false, .bool false, .bool false, .bool false, .int .i64 0, .int .i64 0, .slice none 0 0, .slice none 0 0, .slice none 0 0, .slice none 0 0] 62 (0, 0)) :: (100010, g1, .cells #[.int .u16 p0.fID, .bool p0.fResponse, .bool p0.fAuthoritative, .bool p0.fTruncated, .bool p0.fDesired, .bool p0.fAvailable, .int .i64 p0.fOpcode, .int .i64 p0.fCode, .slice Ap0_0 p0.fQuestions.length cp0_0, .slice Ap0_1 p0.fAnswers.length cp0_1, .slice Ap0_2 p0.fAuthorities.length cp0_2, .slice Ap0_3 p0.fExtras.length cp0_3] 62 (0, 0)) :: H, (13, ⟨.slice A134 l133.length c135, 74, 3, l133.length, l133.flatMap GQuestion.enc⟩) :: R, φ⟩ (fun _ h => h) <| c_region <| g_v rfl r_move <| g_v rfl (r_loadA (tag := 100050) rfl rfl Try.isAgg74 Try.sizeOf74 rfl rfl) ?_
    refine g_e rfl (e_lit (tag := 100280) (l := [(⟨x162, x157.fType, x157.fClass⟩ : GQuestion)]) (enc := GQuestion.enc) (sz := 3) rfl Try.underlying60 (lit74_1 _ _ _) rfl rfl (fun _ => rfl)) (fun g164 _ => ?_)
    replace hm := bnd hm
    obtain ⟨l165, hl165, hm⟩ := hm
    refine g_e rfl (e_appR (enc := GQuestion.enc) (l := l133) (l1 := [(⟨x162, x157.fType, x157.fClass⟩ : GQuestion)]) (l2 := l165) (tag := 13) Try.underlying60 inf74_19 rfl (by decide) (by decide) (fun _ => rfl) (fun _ => rfl) rfl hc135 rfl rfl (fun W hS => rowCl (tag := 100280) rfl W hS) hl165) (fun ⟨A166, c167⟩ hc167 => ?_)
    refine g_v rfl r_assign <| g_nil <| d_normal_block <| d_then <| c_region <| g_v rfl r_move <| g_v rfl (r_add rfl rfl rfl) <| g_v rfl r_assign <| g_nil ?_
    obtain ⟨n168, hn168, hlp⟩ := nx_inl hm hnx2
    exact d_round (n168, l165, w64 (i136 + 1), A166, c167) ⟨hlp, hc167⟩ hn168 ⟨rfl, rfl, rfl, rfl, trivial⟩ (fun W h => ((h.dropR (t := 100280) rfl).dropH (t := 100050) rfl).phi (fun W hφ => hφ))
   ·
    replace hm := ite_f hm (of_decide_eq_false h156)
    refine c_exit <| d_exit_then <| d_exit_then <| d_exit_block ?_
    replace hm := nx_out (C := (fun e => m_law06_small_j1 p0 e = some r)) hm hnx2 hr2
    exact d_round (l133, A134, c135) ⟨hm, hc135⟩ Nat.zero_lt_one ⟨rfl, rfl, rfl, trivial⟩ (fun W h => h.phi (fun W hφ => hφ))
  ·
   replace hm := ite_f hm (of_decide_eq_false h155)
   refine g_no rfl rfl rfl rfl rfl h155 <| g_v rfl (r_pick0 rfl h155) <| g_nil <| d_then <| c_cond0 rfl rfl <| c_exit <| d_exit_then <| d_exit_then <| d_exit_block ?_
   replace hm := nx_out (C := (fun e => m_law06_small_j1 p0 e = some r)) hm hnx2 hr2
   exact d_round (l133, A134, c135) ⟨hm, hc135⟩ Nat.zero_lt_one ⟨rfl, rfl, rfl, trivial⟩ (fun W h => h.phi (fun W hφ => hφ))
 ·
  unfold m_law06_small_j1 at hm
  refine d_flat [(1, .pointer (some ⟨g1, 0, none⟩)), (2, .pointer (some ⟨g2, 0, none⟩)), (3, .slice A92 l91.length c93)] ⟨rfl, rfl, rfl, trivial⟩ (fun u => ?_)
  refine d_sta ⟨w0, M, (100020, g2, .cells #[.int .u16 0, .bool false, .bool false, .bool false, .bool false, .bool false, .int .i64 0, .int .i64 0, .slice none 0 0, .slice none 0 0, .slice none 0 0, .slice none 0 0] 62 (0, 0)) :: (100010, g1, .cells #[.int .u16 p0.fID, .bool p0.fResponse, .bool p0.fAuthoritative, .bool p0.fTruncated, .bool p0.fDesired, .bool p0.fAvailable, .int .i64 p0.fOpcode, .int .i64 p0.fCode, .slice Ap0_0 p0.fQuestions.length cp0_0, .slice Ap0_1 p0.fAnswers.length cp0_1, .slice Ap0_2 p0.fAuthorities.length cp0_2, .slice Ap0_3 p0.fExtras.length cp0_3] 62 (0, 0)) :: H, (13, ⟨.slice A92 l91.length c93, 74, 3, l91.length, l91.flatMap GQuestion.enc⟩) :: R, φ⟩ (fun _ h => h) <| d_then <| c_seq <| c_region <| g_v rfl r_move <| g_v rfl (r_field (n := 8) Try.underlying62 rfl Try.sizeOf60 rfl rfl) <| g_storeL (tag := 100010) rfl rfl rfl rfl Try.sizeOf60 rfl rfl <| g_nil <| d_then <| c_seq ?_
  refine c_region <| g_v rfl (r_field (n := 9) Try.underlying62 rfl Try.sizeOf32 rfl rfl) <| g_v rfl (r_load (tag := 100010) rfl rfl rfl Try.isAgg32) ?_
  replace hm := bnd hm
  obtain ⟨x94, hx95, hm⟩ := hm
  refine g_cn ⟨w0, M, _, _, φ⟩ (fun _ h => h) Try.call85 rfl rfl (c_law06_few p0.fAnswers Ap0_1 cp0_1 hcp0_1 (fun W hS => fp0_1 W (ok_pre (H1 := [_, _]) (R1 := [_]) hS (fun W h => h))) _ hx95) (fun ⟨A96, c97⟩ hc97 => ?_)
  refine g_sta _ (fun W h => (ok_frontR (t := 2000) (t' := 100340) h rfl)) <| g_v rfl (r_field (n := 9) Try.underlying62 rfl Try.sizeOf32 rfl rfl) <| g_storeL (tag := 100010) rfl rfl rfl rfl Try.sizeOf32 rfl rfl <| g_nil <| d_then <| c_seq <| c_region <| g_v rfl (r_field (n := 10) Try.underlying62 rfl Try.sizeOf32 rfl rfl) <| g_v rfl (r_load (tag := 100010) rfl rfl rfl Try.isAgg32) ?_
  replace hm := bnd hm
  obtain ⟨x99, hx100, hm⟩ := hm
  refine g_cn ⟨w0, M, _, _, φ⟩ (fun _ h => h) Try.call85 rfl rfl (c_law06_few p0.fAuthorities Ap0_2 cp0_2 hcp0_2 (fun W hS => fp0_2 W (ok_pre (H1 := [_, _]) (R1 := [_, _]) hS (fun W h => h))) _ hx100) (fun ⟨A101, c102⟩ hc102 => ?_)
  refine g_sta _ (fun W h => (ok_frontR (t := 2000) (t' := 100380) h rfl)) <| g_v rfl (r_field (n := 10) Try.underlying62 rfl Try.sizeOf32 rfl rfl) <| g_storeL (tag := 100010) rfl rfl rfl rfl Try.sizeOf32 rfl rfl <| g_nil <| d_then ?_
  refine c_flat [(1, .pointer (some ⟨g1, 0, none⟩)), (2, .pointer (some ⟨g2, 0, none⟩))] ⟨rfl, rfl, trivial⟩ (fun u => ?_)
  refine c_sta ⟨w0, M, (100020, g2, .cells #[.int .u16 0, .bool false, .bool false, .bool false, .bool false, .bool false, .int .i64 0, .int .i64 0, .slice none 0 0, .slice none 0 0, .slice none 0 0, .slice none 0 0] 62 (0, 0)) :: (100010, g1, .cells #[.int .u16 p0.fID, .bool p0.fResponse, .bool p0.fAuthoritative, .bool p0.fTruncated, .bool p0.fDesired, .bool p0.fAvailable, .int .i64 p0.fOpcode, .int .i64 p0.fCode, .slice A92 l91.length c93, .slice A96 x94.length c97, .slice A101 x99.length c102, .slice Ap0_3 p0.fExtras.length cp0_3] 62 (0, 0)) :: H, (100380, ⟨.slice A101 x99.length c102, 27, 5, x99.length, x99.flatMap GRR.enc⟩) :: (100340, ⟨.slice A96 x94.length c97, 27, 5, x94.length, x94.flatMap GRR.enc⟩) :: (13, ⟨.slice A92 l91.length c93, 74, 3, l91.length, l91.flatMap GQuestion.enc⟩) :: R, φ⟩ (fun _ h => h) <| c_seq <| c_region <| g_v rfl (r_field (n := 11) Try.underlying62 rfl Try.sizeOf32 rfl rfl) <| g_v rfl (r_load (tag := 100010) rfl rfl rfl Try.isAgg32) ?_
  replace hm := bnd hm
  obtain ⟨x104, hx105, hm⟩ := hm
  refine g_cn ⟨w0, M, _, _, φ⟩ (fun _ h => h) Try.call85 rfl rfl (c_law06_few p0.fExtras Ap0_3 cp0_3 hcp0_3 (fun W hS => fp0_3 W (ok_pre (H1 := [_, _]) (R1 := [_, _, _]) hS (fun W h => h))) _ hx105) (fun ⟨A106, c107⟩ hc107 => ?_)
  refine g_sta _ (fun W h => (ok_frontR (t := 2000) (t' := 100420) h rfl)) <| g_v rfl (r_field (n := 11) Try.underlying62 rfl Try.sizeOf32 rfl rfl) <| g_storeL (tag := 100010) rfl rfl rfl rfl Try.sizeOf32 rfl rfl <| g_nil <| d_then <| c_seq <| c_region <| g_v rfl (r_loadA (tag := 100010) rfl rfl Try.isAgg62 Try.sizeOf62 rfl rfl) <| g_storeL (tag := 100020) rfl rfl rfl rfl Try.sizeOf62 rfl rfl <| g_nil ?_
  refine d_then <| c_ret ?_
  replace hm := Option.some.inj hm
  subst hm
  refine d_shut (tag := 13) rfl (fun φ109 q109' => ?_)
  have q109 : ∀ W, φ109 W → φ W := fun W h => (q109' W h).1
  have f110 := fun (W : World) (h : φ109 W) => (q109' W h).2
  refine d_shut (tag := 100340) rfl (fun φ111 q111' => ?_)
  have q111 : ∀ W, φ111 W → φ109 W := fun W h => (q111' W h).1
  have f112 := fun (W : World) (h : φ111 W) => (q111' W h).2
  refine d_shut (tag := 100380) rfl (fun φ113 q113' => ?_)
  have q113 : ∀ W, φ113 W → φ111 W := fun W h => (q113' W h).1
  have f114 := fun (W : World) (h : φ113 W) => (q113' W h).2
  refine d_shut (tag := 100420) rfl (fun φ115 q115' => ?_)
  have q115 : ∀ W, φ115 W → φ113 W := fun W h => (q115' W h).1
  have f116 := fun (W : World) (h : φ115 W) => (q115' W h).2
  refine d_retC (A92, c93, A96, c97, A101, c102, A106, c107) Try.results39 ?_ ⟨hc93, hc97, hc102, hc107⟩ (fun W h => ok_pre (H1 := [_, _]) (R1 := []) h (fun W hφ => ⟨(q109 _ (q111 _ (q113 _ (q115 _ hφ)))), (fun W h => f110 W (q111 _ (q113 _ (q115 _ h)))) W hφ, (fun W h => f112 W (q113 _ (q115 _ h))) W hφ, (fun W h => f114 W (q115 _ h)) W hφ, (fun W h => f116 W h) W hφ⟩)) (.inr rfl)
  refine res_agg (tag := 100020) rfl rfl Try.isAgg62 Try.sizeOf62 <| res_nil ?_
  exact rfl
theorem eqq74 (a b : GQuestion) : ∀ d W, (Op.equalIn (d + 5) 74 (.agg #[.string a.fName, .int .u16 a.fType, .int .u16 a.fClass]) (.agg #[.string b.fName, .int .u16 b.fType, .int .u16 b.fClass])).run Try.prog W = .ok (decide (a = b)) W := by
  intro d W
  have h := eqs_of (d := d + 4) (xs := #[.string a.fName, .int .u16 a.fType, .int .u16 a.fClass]) (ys := #[.string b.fName, .int .u16 b.fType, .int .u16 b.fClass]) (w := W) Try.underlying74 (by kernel_rfl) (eqs_cons (a := .string a.fName) (b := .string b.fName) rfl (by kernel_rfl) (by kernel_rfl) (eqs_str Try.underlying9) (eqs_cons (a := .int .u16 a.fType) (b := .int .u16 b.fType) rfl (by kernel_rfl) (by kernel_rfl) (eqs_int Try.underlying24) (eqs_cons (a := .int .u16 a.fClass) (b := .int .u16 b.fClass) rfl (by kernel_rfl) (by kernel_rfl) (eqs_int Try.underlying24) eqs_nil)))
  refine h.trans ?_
  congr 1
  cases a; cases b
  simp only [GQuestion.mk.injEq, Bool.and_true]
  simp only [Bool.decide_and]
theorem eqg74 : Try.prog.eqGuardType Try.prog.depth 74 = false := by kernel_rfl
theorem eqq27 (a b : GRR) : ∀ d W, (Op.equalIn (d + 5) 27 (.agg #[.string a.fName, .int .u16 a.fType, .int .u16 a.fClass, .int .u32 a.fTTL, .string a.fData]) (.agg #[.string b.fName, .int .u16 b.fType, .int .u16 b.fClass, .int .u32 b.fTTL, .string b.fData])).run Try.prog W = .ok (decide (a = b)) W := by
  intro d W
  have h := eqs_of (d := d + 4) (xs := #[.string a.fName, .int .u16 a.fType, .int .u16 a.fClass, .int .u32 a.fTTL, .string a.fData]) (ys := #[.string b.fName, .int .u16 b.fType, .int .u16 b.fClass, .int .u32 b.fTTL, .string b.fData]) (w := W) Try.underlying27 (by kernel_rfl) (eqs_cons (a := .string a.fName) (b := .string b.fName) rfl (by kernel_rfl) (by kernel_rfl) (eqs_str Try.underlying9) (eqs_cons (a := .int .u16 a.fType) (b := .int .u16 b.fType) rfl (by kernel_rfl) (by kernel_rfl) (eqs_int Try.underlying24) (eqs_cons (a := .int .u16 a.fClass) (b := .int .u16 b.fClass) rfl (by kernel_rfl) (by kernel_rfl) (eqs_int Try.underlying24) (eqs_cons (a := .int .u32 a.fTTL) (b := .int .u32 b.fTTL) rfl (by kernel_rfl) (by kernel_rfl) (eqs_int Try.underlying25) (eqs_cons (a := .string a.fData) (b := .string b.fData) rfl (by kernel_rfl) (by kernel_rfl) (eqs_str Try.underlying9) eqs_nil)))))
  refine h.trans ?_
  congr 1
  cases a; cases b
  simp only [GRR.mk.injEq, Bool.and_true]
  simp only [Bool.decide_and]
theorem eqg27 : Try.prog.eqGuardType Try.prog.depth 27 = false := by kernel_rfl
noncomputable def m_ref06_sameRRs_j1  : Option Bool :=
  some true
noncomputable def m_ref06_sameRRs_s2 (p0 : List GRR) (p1 : List GRR) (i85 : Int) : Option (Int ⊕ (Unit ⊕ Bool)) :=
  if i85 < (p0.length : Int) then
    (at_ p0 i85).bind fun x131 =>
    (at_ p1 i85).bind fun x135 =>
    if x131 = x135 then
      some (.inl (w64 (i85 + 1)))
    else
      some (.inr (.inr false))
  else
    some (.inr (.inl ()))
noncomputable def m_ref06_sameRRs (p0 : List GRR) (p1 : List GRR) : Option Bool :=
  if (p0.length : Int) ≠ (p1.length : Int) then
    some false
  else
    (loop (fun s => m_ref06_sameRRs_s2 p0 p1 s) 0).bind fun e => Sum.elim (fun e => m_ref06_sameRRs_j1) (fun x => some x) e
theorem c_ref06_sameRRs {w0 : World} {M : Nat → Prop} {H : List (Nat × Nat × Obj)} {R : List (Nat × Row)} {φ : World → Prop} (p0 : List GRR) (Ap0_0 : Option Addr) (cp0_0 : Nat) (hcp0_0 : p0.length ≤ cp0_0) (fp0_0 : ∀ W, (Sta.mk w0 M H R φ).ok W → Cl W Ap0_0 (p0.flatMap GRR.enc)) (p1 : List GRR) (Ap1_0 : Option Addr) (cp1_0 : Nat) (hcp1_0 : p1.length ≤ cp1_0) (fp1_0 : ∀ W, (Sta.mk w0 M H R φ).ok W → Cl W Ap1_0 (p1.flatMap GRR.enc)) (r : Bool) (hm : m_ref06_sameRRs p0 p1 = some r) :
    Cn Try.prog 94 #[.slice Ap0_0 p0.length cp0_0, .slice Ap1_0 p1.length cp1_0] ⟨w0, M, H, R, φ⟩ (fun x : Unit => .bool r) (fun x => True) (fun x => ⟨w0, M, H, R, φ⟩) := by
 unfold m_ref06_sameRRs at hm
 refine cn_intro (fn := Try.f94) (N := 26) Try.func94 rfl Try.ntmps94 rfl <| c_seq <| c_region <| g_v rfl r_assign <| g_nil <| d_then <| c_seq <| c_seq <| c_region <| g_v rfl r_move ?_
 refine g_v rfl (r_lenL Try.underlying32 rfl) <| g_v rfl r_move <| g_v rfl (r_lenL Try.underlying32 rfl) <| g_v rfl (r_neq rfl rfl) <| g_nil <| d_then ?_
 refine c_cond rfl (fun h1 => ?_) (fun h1 => ?_)
 ·
  replace hm := ite_t hm (of_decide_eq_true h1)
  refine c_seq <| c_region <| g_v rfl r_assign <| g_nil <| d_then <| c_ret <| d_ret_then ?_
  replace hm := Option.some.inj hm
  subst hm
  refine d_retC () Try.results94 ?_ trivial (fun W h => ok_pre (H1 := []) (R1 := []) h (fun W hφ => hφ)) (.inr rfl)
  refine res_tmp <| res_nil ?_
  exact rfl
 ·
  replace hm := ite_f hm (of_decide_eq_false h1)
  refine c_skip <| d_then <| c_seq <| c_seq <| c_region <| g_v rfl r_assign <| g_nil <| d_then ?_
  refine c_cut (ι := Unit) [] (fun _ => []) (fun _ => ⟨w0, M, H, R, φ⟩) (fun _ => m_ref06_sameRRs_j1 = some r) ?_ (fun _ u hm => ?_)
  ·
   refine c_block ?_
   replace hm := bnd hm
   obtain ⟨out2, hl2, hr2⟩ := hm
   obtain ⟨n113', hl2⟩ := loop_lp hl2
   refine c_loopU (ι := Nat × Int) [0, 1, 5] (fun ⟨n113, i85⟩ => [(5, .int .i64 i85)]) (fun ⟨n113, i85⟩ => ⟨w0, M, H, R, φ⟩) (fun ⟨n113, i85⟩ => Lp (fun s => m_ref06_sameRRs_s2 p0 p1 s) n113 i85 out2) (fun ⟨n113, i85⟩ => n113) (n113', 0) hl2 ⟨rfl, rfl, rfl, trivial⟩ (fun W h => h.phi (fun W hφ => hφ)) (fun ⟨n113, i85⟩ u hlp => ?_)
   obtain ⟨o2, hm, hnx2⟩ := lp_step hlp
   clear hlp
   replace hm : m_ref06_sameRRs_s2 p0 p1 i85 = some o2 := hm
   unfold m_ref06_sameRRs_s2 at hm
   refine c_flat [(0, .slice Ap0_0 p0.length cp0_0), (1, .slice Ap1_0 p1.length cp1_0), (5, .int .i64 i85)] ⟨rfl, rfl, rfl, trivial⟩ (fun u => ?_)
   refine c_sta ⟨w0, M, H, R, φ⟩ (fun _ h => h) <| c_seq <| c_seq <| c_region <| g_v rfl r_move <| g_v rfl r_move <| g_v rfl (r_lenL Try.underlying32 rfl) <| g_v rfl (r_lss rfl rfl) <| g_nil <| d_then ?_
   refine c_cond rfl (fun h114 => ?_) (fun h114 => ?_)
   ·
    replace hm := ite_t hm (of_decide_eq_true h114)
    refine c_skip <| d_then <| c_seq <| c_block <| c_seq <| ga_start (n := 9) ⟨w0, M, H, R, φ⟩ [] #[false, false, false, false, false, false, false, false, false] (fun W h => h.phi (fun W hφ => hφ)) mixed rfl rfl <| ga_v (i := 0) (bz 9 1) rfl (by kernel_rfl) (fun _ _ _ _ h => h) rfl (r_move) <| ga_v (i := 1) (bz 9 3) rfl (by kernel_rfl) (fun _ _ _ _ h => h) rfl (r_move) ?_
    replace hm := bnd hm
    obtain ⟨x131, hx131, hm⟩ := hm
    refine ga_know _ (fun W hS => cl_at (p := (Sta.mk w0 M H R φ).ok) (sz := 5) (fun _ => rfl) (by decide) (ok_pre (H1 := []) (R1 := []) hS (fun W h => h)) fp0_0 hx131) ?_
    rintro ⟨ad132, hA134, f133⟩
    refine ga_v (i := 2) (bz 9 7) rfl (by kernel_rfl) (fun _ _ _ _ h => h) rfl (r_ix Try.underlying32 Try.sizeOf27 rfl hA134 rfl hx131) <| ga_v (i := 3) (bz 9 15) rfl (by kernel_rfl) (fun _ _ _ _ h => h) rfl (r_ldA rfl Try.isAgg27 Try.sizeOf27 (fun W hS => (f133 W (ok_pre (H1 := []) (R1 := []) hS (fun W h => h))).take 5) rfl) <| ga_v (i := 4) (bz 9 31) rfl (by kernel_rfl) (fun _ _ _ _ h => h) rfl (r_move) <| ga_r (i := 5) (bz 9 63) rfl (by kernel_rfl) (by decide) rfl (r_move) ?_
    replace hm := bnd hm
    obtain ⟨x135, hx135, hm⟩ := hm
    refine ga_know _ (fun W hS => cl_at (p := (Sta.mk w0 M H R φ).ok) (sz := 5) (fun _ => rfl) (by decide) (ok_pre (H1 := []) (R1 := []) hS (fun W h => h)) fp1_0 hx135) ?_
    rintro ⟨ad136, hA138, f137⟩
    refine ga_r (i := 6) (bz 9 127) rfl (by kernel_rfl) (by decide) rfl (r_ix Try.underlying32 Try.sizeOf27 rfl hA138 rfl hx135) <| ga_r (i := 7) (bz 9 255) rfl (by kernel_rfl) (by decide) rfl (r_ldA rfl Try.isAgg27 Try.sizeOf27 (fun W hS => (f137 W (ok_pre (H1 := []) (R1 := []) hS (fun W h => h))).take 5) rfl) <| ga_r (i := 8) (bz 9 511) rfl (by kernel_rfl) (by decide) rfl (r_neqA rfl rfl eqg27 (eqq27 x131 x135)) <| ga_done (by kernel_rfl) <| d_then ?_
    refine c_flat [(0, .slice Ap0_0 p0.length cp0_0), (1, .slice Ap1_0 p1.length cp1_0), (5, .int .i64 i85), (25, .bool (!(decide (x131 = x135))))] ⟨rfl, rfl, rfl, rfl, trivial⟩ (fun u => ?_)
    refine c_cond rfl (fun h139 => ?_) (fun h139 => ?_)
    ·
     have h139' : (decide (x131 = x135)) = false := by revert h139; cases (decide (x131 = x135)) <;> simp
     replace hm := ite_f hm (of_decide_eq_false h139')
     refine c_seq <| c_region <| g_v rfl r_assign <| g_nil <| d_then <| c_ret <| d_ret_block <| d_ret_then <| d_ret_then <| d_ret_block ?_
     refine d_ret_then <| d_ret_then ?_
     replace hm := nx_out (C := (fun e => Sum.elim (fun e => m_ref06_sameRRs_j1) (fun x => some x) e = some r)) hm hnx2 hr2
     replace hm : some false = some r := hm
     replace hm := Option.some.inj hm
     subst hm
     refine d_retC () Try.results94 ?_ trivial (fun W h => ok_pre (H1 := []) (R1 := []) h (fun W hφ => hφ)) (.inr rfl)
     refine res_tmp <| res_nil ?_
     exact rfl
    ·
     have h139' : (decide (x131 = x135)) = true := by revert h139; cases (decide (x131 = x135)) <;> simp
     replace hm := ite_t hm (of_decide_eq_true h139')
     refine c_skip <| d_normal_block <| d_then <| c_region <| g_v rfl r_move <| g_v rfl (r_add rfl rfl rfl) <| g_v rfl r_assign <| g_nil ?_
     obtain ⟨n140, hn140, hlp⟩ := nx_inl hm hnx2
     exact d_round (n140, w64 (i85 + 1)) hlp hn140 ⟨rfl, rfl, rfl, trivial⟩ (fun W h => h.phi (fun W hφ => hφ))
   ·
    replace hm := ite_f hm (of_decide_eq_false h114)
    refine c_exit <| d_exit_then <| d_exit_then <| d_exit_block ?_
    replace hm := nx_out (C := (fun e => Sum.elim (fun e => m_ref06_sameRRs_j1) (fun x => some x) e = some r)) hm hnx2 hr2
    exact d_round () hm Nat.zero_lt_one trivial (fun W h => h.phi (fun W hφ => hφ))
  ·
   unfold m_ref06_sameRRs_j1 at hm
   refine d_flat [] trivial (fun u => ?_)
   refine d_sta ⟨w0, M, H, R, φ⟩ (fun _ h => h) <| d_then <| c_seq <| c_region <| g_v rfl r_assign <| g_nil <| d_then <| c_ret ?_
   replace hm := Option.some.inj hm
   subst hm
   refine d_retC () Try.results94 ?_ trivial (fun W h => ok_pre (H1 := []) (R1 := []) h (fun W hφ => hφ)) (.inr rfl)
   refine res_tmp <| res_nil ?_
   exact rfl
noncomputable def m_ref06_Same_j1 (p0 : GMessage) (p1 : GMessage) : Option Bool :=
  (m_ref06_sameRRs p0.fAnswers p1.fAnswers).bind fun x68 =>
  (m_ref06_sameRRs p0.fAuthorities p1.fAuthorities).bind fun x70 =>
  (m_ref06_sameRRs p0.fExtras p1.fExtras).bind fun x72 =>
  if x68 = true then
    if x70 = true then
      some x72
    else
      some false
  else
    some false
noncomputable def m_ref06_Same_s2 (p0 : GMessage) (p1 : GMessage) (i103 : Int) : Option (Int ⊕ (Unit ⊕ Bool)) :=
  if i103 < (p0.fQuestions.length : Int) then
    (at_ p0.fQuestions i103).bind fun x149 =>
    (at_ p1.fQuestions i103).bind fun x153 =>
    if x149 = x153 then
      some (.inl (w64 (i103 + 1)))
    else
      some (.inr (.inr false))
  else
    some (.inr (.inl ()))
noncomputable def m_ref06_Same (p0 : GMessage) (p1 : GMessage) : Option Bool :=
  if p0.fID ≠ p1.fID then
    some false
  else
    if (!(p0.fResponse == p1.fResponse)) = true then
      some false
    else
      if (!(p0.fAuthoritative == p1.fAuthoritative)) = true then
        some false
      else
        if (!(p0.fTruncated == p1.fTruncated)) = true then
          some false
        else
          if (!(p0.fDesired == p1.fDesired)) = true then
            some false
          else
            if (!(p0.fAvailable == p1.fAvailable)) = true then
              some false
            else
              if p0.fOpcode ≠ p1.fOpcode then
                some false
              else
                if p0.fCode ≠ p1.fCode then
                  some false
                else
                  if (p0.fQuestions.length : Int) ≠ (p1.fQuestions.length : Int) then
                    some false
                  else
                    (loop (fun s => m_ref06_Same_s2 p0 p1 s) 0).bind fun e => Sum.elim (fun e => m_ref06_Same_j1 p0 p1) (fun x => some x) e
theorem c_ref06_Same {w0 : World} {M : Nat → Prop} {H : List (Nat × Nat × Obj)} {R : List (Nat × Row)} {φ : World → Prop} (p0 : GMessage) (Ap0_0 : Option Addr) (cp0_0 : Nat) (hcp0_0 : p0.fQuestions.length ≤ cp0_0) (fp0_0 : ∀ W, (Sta.mk w0 M H R φ).ok W → Cl W Ap0_0 (p0.fQuestions.flatMap GQuestion.enc)) (Ap0_1 : Option Addr) (cp0_1 : Nat) (hcp0_1 : p0.fAnswers.length ≤ cp0_1) (fp0_1 : ∀ W, (Sta.mk w0 M H R φ).ok W → Cl W Ap0_1 (p0.fAnswers.flatMap GRR.enc)) (Ap0_2 : Option Addr) (cp0_2 : Nat) (hcp0_2 : p0.fAuthorities.length ≤ cp0_2) (fp0_2 : ∀ W, (Sta.mk w0 M H R φ).ok W → Cl W Ap0_2 (p0.fAuthorities.flatMap GRR.enc)) (Ap0_3 : Option Addr) (cp0_3 : Nat) (hcp0_3 : p0.fExtras.length ≤ cp0_3) (fp0_3 : ∀ W, (Sta.mk w0 M H R φ).ok W → Cl W Ap0_3 (p0.fExtras.flatMap GRR.enc)) (p1 : GMessage) (Ap1_0 : Option Addr) (cp1_0 : Nat) (hcp1_0 : p1.fQuestions.length ≤ cp1_0) (fp1_0 : ∀ W, (Sta.mk w0 M H R φ).ok W → Cl W Ap1_0 (p1.fQuestions.flatMap GQuestion.enc)) (Ap1_1 : Option Addr) (cp1_1 : Nat) (hcp1_1 : p1.fAnswers.length ≤ cp1_1) (fp1_1 : ∀ W, (Sta.mk w0 M H R φ).ok W → Cl W Ap1_1 (p1.fAnswers.flatMap GRR.enc)) (Ap1_2 : Option Addr) (cp1_2 : Nat) (hcp1_2 : p1.fAuthorities.length ≤ cp1_2) (fp1_2 : ∀ W, (Sta.mk w0 M H R φ).ok W → Cl W Ap1_2 (p1.fAuthorities.flatMap GRR.enc)) (Ap1_3 : Option Addr) (cp1_3 : Nat) (hcp1_3 : p1.fExtras.length ≤ cp1_3) (fp1_3 : ∀ W, (Sta.mk w0 M H R φ).ok W → Cl W Ap1_3 (p1.fExtras.flatMap GRR.enc)) (r : Bool) (hm : m_ref06_Same p0 p1 = some r) :
    Cn Try.prog 47 #[.agg #[.int .u16 p0.fID, .bool p0.fResponse, .bool p0.fAuthoritative, .bool p0.fTruncated, .bool p0.fDesired, .bool p0.fAvailable, .int .i64 p0.fOpcode, .int .i64 p0.fCode, .slice Ap0_0 p0.fQuestions.length cp0_0, .slice Ap0_1 p0.fAnswers.length cp0_1, .slice Ap0_2 p0.fAuthorities.length cp0_2, .slice Ap0_3 p0.fExtras.length cp0_3], .agg #[.int .u16 p1.fID, .bool p1.fResponse, .bool p1.fAuthoritative, .bool p1.fTruncated, .bool p1.fDesired, .bool p1.fAvailable, .int .i64 p1.fOpcode, .int .i64 p1.fCode, .slice Ap1_0 p1.fQuestions.length cp1_0, .slice Ap1_1 p1.fAnswers.length cp1_1, .slice Ap1_2 p1.fAuthorities.length cp1_2, .slice Ap1_3 p1.fExtras.length cp1_3]] ⟨w0, M, H, R, φ⟩ (fun x : Unit => .bool r) (fun x => True) (fun x => ⟨w0, M, H, R, φ⟩) := by
 unfold m_ref06_Same at hm
 refine cn_intro (fn := Try.f47) (N := 112) Try.func47 rfl Try.ntmps47 rfl <| c_seq <| c_region ?_
 refine g_e rfl (e_box 100020 rfl) (fun g1 _ => ?_)
 refine g_e rfl (e_box 100030 rfl) (fun g2 _ => ?_)
 refine g_v rfl r_assign <| g_nil <| d_then <| c_seq <| c_seq <| c_region <| g_v rfl (r_field (n := 0) Try.underlying62 rfl Try.sizeOf24 rfl rfl) <| g_v rfl (r_load (tag := 100020) rfl rfl rfl Try.isAgg24) <| g_v rfl (r_field (n := 0) Try.underlying62 rfl Try.sizeOf24 rfl rfl) <| g_v rfl (r_load (tag := 100030) rfl rfl rfl Try.isAgg24) ?_
 refine g_v rfl (r_neq rfl rfl) <| g_v rfl r_move ?_
 refine g_if rfl rfl rfl rfl rfl (fun h3 => ?_) (fun h3 => ?_)
 ·
  replace hm := ite_f hm (of_decide_eq_false h3)
  refine g_v rfl (r_field (n := 1) Try.underlying62 rfl Try.sizeOf4 rfl rfl) <| g_do rfl rfl rfl rfl rfl h3 <| g_v rfl (r_load (tag := 100020) rfl rfl rfl Try.isAgg4) <| g_do rfl rfl rfl rfl rfl h3 <| g_v rfl (r_field (n := 1) Try.underlying62 rfl Try.sizeOf4 rfl rfl) <| g_do rfl rfl rfl rfl rfl h3 <| g_v rfl (r_load (tag := 100030) rfl rfl rfl Try.isAgg4) <| g_do rfl rfl rfl rfl rfl h3 <| g_v rfl (r_neqBo Try.underlying4 rfl rfl) <| g_v rfl (r_pick0 rfl h3) ?_
  refine g_v rfl r_move ?_
  refine g_if rfl rfl rfl rfl rfl (fun h4 => ?_) (fun h4 => ?_)
  ·
   replace hm := ite_f hm (bool_nt h4)
   refine g_v rfl (r_field (n := 2) Try.underlying62 rfl Try.sizeOf4 rfl rfl) <| g_do rfl rfl rfl rfl rfl h4 <| g_v rfl (r_load (tag := 100020) rfl rfl rfl Try.isAgg4) <| g_do rfl rfl rfl rfl rfl h4 <| g_v rfl (r_field (n := 2) Try.underlying62 rfl Try.sizeOf4 rfl rfl) <| g_do rfl rfl rfl rfl rfl h4 <| g_v rfl (r_load (tag := 100030) rfl rfl rfl Try.isAgg4) <| g_do rfl rfl rfl rfl rfl h4 <| g_v rfl (r_neqBo Try.underlying4 rfl rfl) <| g_v rfl (r_pick0 rfl h4) ?_
   refine g_v rfl r_move ?_
   refine g_if rfl rfl rfl rfl rfl (fun h5 => ?_) (fun h5 => ?_)
   ·
    replace hm := ite_f hm (bool_nt h5)
    refine g_v rfl (r_field (n := 3) Try.underlying62 rfl Try.sizeOf4 rfl rfl) <| g_do rfl rfl rfl rfl rfl h5 <| g_v rfl (r_load (tag := 100020) rfl rfl rfl Try.isAgg4) <| g_do rfl rfl rfl rfl rfl h5 <| g_v rfl (r_field (n := 3) Try.underlying62 rfl Try.sizeOf4 rfl rfl) <| g_do rfl rfl rfl rfl rfl h5 <| g_v rfl (r_load (tag := 100030) rfl rfl rfl Try.isAgg4) <| g_do rfl rfl rfl rfl rfl h5 <| g_v rfl (r_neqBo Try.underlying4 rfl rfl) <| g_v rfl (r_pick0 rfl h5) ?_
    refine g_v rfl r_move ?_
    refine g_if rfl rfl rfl rfl rfl (fun h6 => ?_) (fun h6 => ?_)
    ·
     replace hm := ite_f hm (bool_nt h6)
     refine g_v rfl (r_field (n := 4) Try.underlying62 rfl Try.sizeOf4 rfl rfl) <| g_do rfl rfl rfl rfl rfl h6 <| g_v rfl (r_load (tag := 100020) rfl rfl rfl Try.isAgg4) <| g_do rfl rfl rfl rfl rfl h6 <| g_v rfl (r_field (n := 4) Try.underlying62 rfl Try.sizeOf4 rfl rfl) <| g_do rfl rfl rfl rfl rfl h6 <| g_v rfl (r_load (tag := 100030) rfl rfl rfl Try.isAgg4) <| g_do rfl rfl rfl rfl rfl h6 <| g_v rfl (r_neqBo Try.underlying4 rfl rfl) <| g_v rfl (r_pick0 rfl h6) ?_
     refine g_v rfl r_move ?_
     refine g_if rfl rfl rfl rfl rfl (fun h7 => ?_) (fun h7 => ?_)
     ·
      replace hm := ite_f hm (bool_nt h7)
      refine g_v rfl (r_field (n := 5) Try.underlying62 rfl Try.sizeOf4 rfl rfl) <| g_do rfl rfl rfl rfl rfl h7 <| g_v rfl (r_load (tag := 100020) rfl rfl rfl Try.isAgg4) <| g_do rfl rfl rfl rfl rfl h7 <| g_v rfl (r_field (n := 5) Try.underlying62 rfl Try.sizeOf4 rfl rfl) <| g_do rfl rfl rfl rfl rfl h7 <| g_v rfl (r_load (tag := 100030) rfl rfl rfl Try.isAgg4) <| g_do rfl rfl rfl rfl rfl h7 <| g_v rfl (r_neqBo Try.underlying4 rfl rfl) <| g_v rfl (r_pick0 rfl h7) ?_
      refine g_v rfl r_move ?_
      refine g_if rfl rfl rfl rfl rfl (fun h8 => ?_) (fun h8 => ?_)
      ·
       replace hm := ite_f hm (bool_nt h8)
       refine g_v rfl (r_field (n := 6) Try.underlying62 rfl Try.sizeOf3 rfl rfl) <| g_do rfl rfl rfl rfl rfl h8 <| g_v rfl (r_load (tag := 100020) rfl rfl rfl Try.isAgg3) <| g_do rfl rfl rfl rfl rfl h8 <| g_v rfl (r_field (n := 6) Try.underlying62 rfl Try.sizeOf3 rfl rfl) <| g_do rfl rfl rfl rfl rfl h8 <| g_v rfl (r_load (tag := 100030) rfl rfl rfl Try.isAgg3) <| g_do rfl rfl rfl rfl rfl h8 <| g_v rfl (r_neq rfl rfl) <| g_v rfl (r_pick0 rfl h8) ?_
       refine g_v rfl r_move ?_
       refine g_if rfl rfl rfl rfl rfl (fun h9 => ?_) (fun h9 => ?_)
       ·
        replace hm := ite_f hm (of_decide_eq_false h9)
        refine g_v rfl (r_field (n := 7) Try.underlying62 rfl Try.sizeOf3 rfl rfl) <| g_do rfl rfl rfl rfl rfl h9 <| g_v rfl (r_load (tag := 100020) rfl rfl rfl Try.isAgg3) <| g_do rfl rfl rfl rfl rfl h9 <| g_v rfl (r_field (n := 7) Try.underlying62 rfl Try.sizeOf3 rfl rfl) <| g_do rfl rfl rfl rfl rfl h9 <| g_v rfl (r_load (tag := 100030) rfl rfl rfl Try.isAgg3) <| g_do rfl rfl rfl rfl rfl h9 <| g_v rfl (r_neq rfl rfl) <| g_v rfl (r_pick0 rfl h9) ?_
        refine g_v rfl r_move ?_
        refine g_if rfl rfl rfl rfl rfl (fun h10 => ?_) (fun h10 => ?_)
        ·
         replace hm := ite_f hm (of_decide_eq_false h10)
         refine g_v rfl (r_field (n := 8) Try.underlying62 rfl Try.sizeOf60 rfl rfl) <| g_do rfl rfl rfl rfl rfl h10 <| g_v rfl (r_load (tag := 100020) rfl rfl rfl Try.isAgg60) <| g_do rfl rfl rfl rfl rfl h10 <| g_v rfl (r_lenL Try.underlying60 rfl) <| g_do rfl rfl rfl rfl rfl h10 <| g_v rfl (r_field (n := 8) Try.underlying62 rfl Try.sizeOf60 rfl rfl) <| g_do rfl rfl rfl rfl rfl h10 <| g_v rfl (r_load (tag := 100030) rfl rfl rfl Try.isAgg60) <| g_do rfl rfl rfl rfl rfl h10 ?_
         refine g_v rfl (r_lenL Try.underlying60 rfl) <| g_do rfl rfl rfl rfl rfl h10 <| g_v rfl (r_neq rfl rfl) <| g_v rfl (r_pick0 rfl h10) <| g_nil <| d_then ?_
         refine c_flat [(2, .pointer (some ⟨g1, 0, none⟩)), (3, .pointer (some ⟨g2, 0, none⟩)), (71, .bool (decide ((p0.fQuestions.length : Int) ≠ (p1.fQuestions.length : Int))))] ⟨rfl, rfl, rfl, trivial⟩ (fun u => ?_)
         refine c_sta ⟨w0, M, (100030, g2, .cells #[.int .u16 p1.fID, .bool p1.fResponse, .bool p1.fAuthoritative, .bool p1.fTruncated, .bool p1.fDesired, .bool p1.fAvailable, .int .i64 p1.fOpcode, .int .i64 p1.fCode, .slice Ap1_0 p1.fQuestions.length cp1_0, .slice Ap1_1 p1.fAnswers.length cp1_1, .slice Ap1_2 p1.fAuthorities.length cp1_2, .slice Ap1_3 p1.fExtras.length cp1_3] 62 (0, 0)) :: (100020, g1, .cells #[.int .u16 p0.fID, .bool p0.fResponse, .bool p0.fAuthoritative, .bool p0.fTruncated, .bool p0.fDesired, .bool p0.fAvailable, .int .i64 p0.fOpcode, .int .i64 p0.fCode, .slice Ap0_0 p0.fQuestions.length cp0_0, .slice Ap0_1 p0.fAnswers.length cp0_1, .slice Ap0_2 p0.fAuthorities.length cp0_2, .slice Ap0_3 p0.fExtras.length cp0_3] 62 (0, 0)) :: H, R, φ⟩ (fun _ h => h) ?_
         refine c_cond rfl (fun h11 => ?_) (fun h11 => ?_)
         ·
          replace hm := ite_t hm (of_decide_eq_true h11)
          refine c_seq <| c_region <| g_v rfl r_assign <| g_nil <| d_then <| c_ret <| d_ret_then ?_
          replace hm := Option.some.inj hm
          subst hm
          refine d_retC () Try.results47 ?_ trivial (fun W h => ok_pre (H1 := [_, _]) (R1 := []) h (fun W hφ => hφ)) (.inr rfl)
          refine res_tmp <| res_nil ?_
          exact rfl
         ·
          replace hm := ite_f hm (of_decide_eq_false h11)
          refine c_skip <| d_then <| c_seq <| c_seq <| c_region <| g_v rfl r_assign <| g_nil <| d_then ?_
          refine c_cut (ι := Unit) [2, 3] (fun _ => []) (fun _ => ⟨w0, M, (100030, g2, .cells #[.int .u16 p1.fID, .bool p1.fResponse, .bool p1.fAuthoritative, .bool p1.fTruncated, .bool p1.fDesired, .bool p1.fAvailable, .int .i64 p1.fOpcode, .int .i64 p1.fCode, .slice Ap1_0 p1.fQuestions.length cp1_0, .slice Ap1_1 p1.fAnswers.length cp1_1, .slice Ap1_2 p1.fAuthorities.length cp1_2, .slice Ap1_3 p1.fExtras.length cp1_3] 62 (0, 0)) :: (100020, g1, .cells #[.int .u16 p0.fID, .bool p0.fResponse, .bool p0.fAuthoritative, .bool p0.fTruncated, .bool p0.fDesired, .bool p0.fAvailable, .int .i64 p0.fOpcode, .int .i64 p0.fCode, .slice Ap0_0 p0.fQuestions.length cp0_0, .slice Ap0_1 p0.fAnswers.length cp0_1, .slice Ap0_2 p0.fAuthorities.length cp0_2, .slice Ap0_3 p0.fExtras.length cp0_3] 62 (0, 0)) :: H, R, φ⟩) (fun _ => m_ref06_Same_j1 p0 p1 = some r) ?_ (fun _ u hm => ?_)
          ·
           refine c_block ?_
           replace hm := bnd hm
           obtain ⟨out2, hl2, hr2⟩ := hm
           obtain ⟨n131', hl2⟩ := loop_lp hl2
           refine c_loopU (ι := Nat × Int) [2, 3, 5] (fun ⟨n131, i103⟩ => [(5, .int .i64 i103)]) (fun ⟨n131, i103⟩ => ⟨w0, M, (100030, g2, .cells #[.int .u16 p1.fID, .bool p1.fResponse, .bool p1.fAuthoritative, .bool p1.fTruncated, .bool p1.fDesired, .bool p1.fAvailable, .int .i64 p1.fOpcode, .int .i64 p1.fCode, .slice Ap1_0 p1.fQuestions.length cp1_0, .slice Ap1_1 p1.fAnswers.length cp1_1, .slice Ap1_2 p1.fAuthorities.length cp1_2, .slice Ap1_3 p1.fExtras.length cp1_3] 62 (0, 0)) :: (100020, g1, .cells #[.int .u16 p0.fID, .bool p0.fResponse, .bool p0.fAuthoritative, .bool p0.fTruncated, .bool p0.fDesired, .bool p0.fAvailable, .int .i64 p0.fOpcode, .int .i64 p0.fCode, .slice Ap0_0 p0.fQuestions.length cp0_0, .slice Ap0_1 p0.fAnswers.length cp0_1, .slice Ap0_2 p0.fAuthorities.length cp0_2, .slice Ap0_3 p0.fExtras.length cp0_3] 62 (0, 0)) :: H, R, φ⟩) (fun ⟨n131, i103⟩ => Lp (fun s => m_ref06_Same_s2 p0 p1 s) n131 i103 out2) (fun ⟨n131, i103⟩ => n131) (n131', 0) hl2 ⟨rfl, rfl, rfl, trivial⟩ (fun W h => h.phi (fun W hφ => hφ)) (fun ⟨n131, i103⟩ u hlp => ?_)
           obtain ⟨o2, hm, hnx2⟩ := lp_step hlp
           clear hlp
           replace hm : m_ref06_Same_s2 p0 p1 i103 = some o2 := hm
           unfold m_ref06_Same_s2 at hm
           refine c_flat [(2, .pointer (some ⟨g1, 0, none⟩)), (3, .pointer (some ⟨g2, 0, none⟩)), (5, .int .i64 i103)] ⟨rfl, rfl, rfl, trivial⟩ (fun u => ?_)
           refine c_seq <| c_seq <| c_region <| g_v rfl r_move <| g_v rfl (r_field (n := 8) Try.underlying62 rfl Try.sizeOf60 rfl rfl) <| g_v rfl (r_load (tag := 100020) rfl rfl rfl Try.isAgg60) <| g_v rfl (r_lenL Try.underlying60 rfl) <| g_v rfl (r_lss rfl rfl) <| g_nil <| d_then ?_
           refine c_cond rfl (fun h132 => ?_) (fun h132 => ?_)
           ·
            replace hm := ite_t hm (of_decide_eq_true h132)
            refine c_skip <| d_then <| c_seq <| c_block <| c_seq <| ga_start (n := 11) ⟨w0, M, (100030, g2, .cells #[.int .u16 p1.fID, .bool p1.fResponse, .bool p1.fAuthoritative, .bool p1.fTruncated, .bool p1.fDesired, .bool p1.fAvailable, .int .i64 p1.fOpcode, .int .i64 p1.fCode, .slice Ap1_0 p1.fQuestions.length cp1_0, .slice Ap1_1 p1.fAnswers.length cp1_1, .slice Ap1_2 p1.fAuthorities.length cp1_2, .slice Ap1_3 p1.fExtras.length cp1_3] 62 (0, 0)) :: (100020, g1, .cells #[.int .u16 p0.fID, .bool p0.fResponse, .bool p0.fAuthoritative, .bool p0.fTruncated, .bool p0.fDesired, .bool p0.fAvailable, .int .i64 p0.fOpcode, .int .i64 p0.fCode, .slice Ap0_0 p0.fQuestions.length cp0_0, .slice Ap0_1 p0.fAnswers.length cp0_1, .slice Ap0_2 p0.fAuthorities.length cp0_2, .slice Ap0_3 p0.fExtras.length cp0_3] 62 (0, 0)) :: H, R, φ⟩ [] #[false, false, false, false, false, false, false, false, false, false, false] (fun W h => h.phi (fun W hφ => hφ)) mixed rfl rfl <| ga_v (i := 0) (bz 11 1) rfl (by kernel_rfl) (fun _ _ _ _ h => h) rfl (r_field (n := 8) Try.underlying62 rfl Try.sizeOf60 rfl rfl) <| ga_v (i := 1) (bz 11 3) rfl (by kernel_rfl) (fun _ _ _ _ h => h) rfl (r_load (tag := 100020) rfl rfl rfl Try.isAgg60) <| ga_v (i := 2) (bz 11 7) rfl (by kernel_rfl) (fun _ _ _ _ h => h) rfl (r_move) ?_
            replace hm := bnd hm
            obtain ⟨x149, hx149, hm⟩ := hm
            refine ga_know _ (fun W hS => cl_at (p := (Sta.mk w0 M H R φ).ok) (sz := 3) (fun _ => rfl) (by decide) (ok_pre (H1 := [_, _]) (R1 := []) hS (fun W h => h)) fp0_0 hx149) ?_
            rintro ⟨ad150, hA152, f151⟩
            refine ga_v (i := 3) (bz 11 15) rfl (by kernel_rfl) (fun _ _ _ _ h => h) rfl (r_ix Try.underlying60 Try.sizeOf74 rfl hA152 rfl hx149) <| ga_v (i := 4) (bz 11 31) rfl (by kernel_rfl) (fun _ _ _ _ h => h) rfl (r_ldA rfl Try.isAgg74 Try.sizeOf74 (fun W hS => (f151 W (ok_pre (H1 := [_, _]) (R1 := []) hS (fun W h => h))).take 3) rfl) <| ga_v (i := 5) (bz 11 63) rfl (by kernel_rfl) (fun _ _ _ _ h => h) rfl (r_field (n := 8) Try.underlying62 rfl Try.sizeOf60 rfl rfl) <| ga_v (i := 6) (bz 11 127) rfl (by kernel_rfl) (fun _ _ _ _ h => h) rfl (r_load (tag := 100030) rfl rfl rfl Try.isAgg60) <| ga_r (i := 7) (bz 11 255) rfl (by kernel_rfl) (by decide) rfl (r_move) ?_
            replace hm := bnd hm
            obtain ⟨x153, hx153, hm⟩ := hm
            refine ga_know _ (fun W hS => cl_at (p := (Sta.mk w0 M H R φ).ok) (sz := 3) (fun _ => rfl) (by decide) (ok_pre (H1 := [_, _]) (R1 := []) hS (fun W h => h)) fp1_0 hx153) ?_
            rintro ⟨ad154, hA156, f155⟩
            refine ga_r (i := 8) (bz 11 511) rfl (by kernel_rfl) (by decide) rfl (r_ix Try.underlying60 Try.sizeOf74 rfl hA156 rfl hx153) <| ga_r (i := 9) (bz 11 1023) rfl (by kernel_rfl) (by decide) rfl (r_ldA rfl Try.isAgg74 Try.sizeOf74 (fun W hS => (f155 W (ok_pre (H1 := [_, _]) (R1 := []) hS (fun W h => h))).take 3) rfl) <| ga_r (i := 10) (bz 11 2047) rfl (by kernel_rfl) (by decide) rfl (r_neqA rfl rfl eqg74 (eqq74 x149 x153)) <| ga_done (by kernel_rfl) <| d_then ?_
            refine c_flat [(2, .pointer (some ⟨g1, 0, none⟩)), (3, .pointer (some ⟨g2, 0, none⟩)), (5, .int .i64 i103), (89, .bool (!(decide (x149 = x153))))] ⟨rfl, rfl, rfl, rfl, trivial⟩ (fun u => ?_)
            refine c_cond rfl (fun h157 => ?_) (fun h157 => ?_)
            ·
             have h157' : (decide (x149 = x153)) = false := by revert h157; cases (decide (x149 = x153)) <;> simp
             replace hm := ite_f hm (of_decide_eq_false h157')
             refine c_seq <| c_region <| g_v rfl r_assign <| g_nil <| d_then <| c_ret <| d_ret_block <| d_ret_then <| d_ret_then <| d_ret_block ?_
             refine d_ret_then <| d_ret_then ?_
             replace hm := nx_out (C := (fun e => Sum.elim (fun e => m_ref06_Same_j1 p0 p1) (fun x => some x) e = some r)) hm hnx2 hr2
             replace hm : some false = some r := hm
             replace hm := Option.some.inj hm
             subst hm
             refine d_retC () Try.results47 ?_ trivial (fun W h => ok_pre (H1 := [_, _]) (R1 := []) h (fun W hφ => hφ)) (.inr rfl)
             refine res_tmp <| res_nil ?_
             exact rfl
            ·
             have h157' : (decide (x149 = x153)) = true := by revert h157; cases (decide (x149 = x153)) <;> simp
             replace hm := ite_t hm (of_decide_eq_true h157')
             refine c_skip <| d_normal_block <| d_then <| c_region <| g_v rfl r_move <| g_v rfl (r_add rfl rfl rfl) <| g_v rfl r_assign <| g_nil ?_
             obtain ⟨n158, hn158, hlp⟩ := nx_inl hm hnx2
             exact d_round (n158, w64 (i103 + 1)) hlp hn158 ⟨rfl, rfl, rfl, trivial⟩ (fun W h => h.phi (fun W hφ => hφ))
           ·
            replace hm := ite_f hm (of_decide_eq_false h132)
            refine c_exit <| d_exit_then <| d_exit_then <| d_exit_block ?_
            replace hm := nx_out (C := (fun e => Sum.elim (fun e => m_ref06_Same_j1 p0 p1) (fun x => some x) e = some r)) hm hnx2 hr2
            exact d_round () hm Nat.zero_lt_one ⟨rfl, rfl, trivial⟩ (fun W h => h.phi (fun W hφ => hφ))
          ·
           unfold m_ref06_Same_j1 at hm
           refine d_flat [(2, .pointer (some ⟨g1, 0, none⟩)), (3, .pointer (some ⟨g2, 0, none⟩))] ⟨rfl, rfl, trivial⟩ (fun u => ?_)
           refine d_then <| c_seq <| c_region <| g_v rfl (r_field (n := 9) Try.underlying62 rfl Try.sizeOf32 rfl rfl) <| g_v rfl (r_load (tag := 100020) rfl rfl rfl Try.isAgg32) <| g_v rfl (r_field (n := 9) Try.underlying62 rfl Try.sizeOf32 rfl rfl) <| g_v rfl (r_load (tag := 100030) rfl rfl rfl Try.isAgg32) ?_
           replace hm := bnd hm
           obtain ⟨x68, hx69, hm⟩ := hm
           refine g_cn ⟨w0, M, _, _, φ⟩ (fun _ h => h) Try.call94 rfl rfl (c_ref06_sameRRs p0.fAnswers Ap0_1 cp0_1 hcp0_1 (fun W hS => fp0_1 W (ok_pre (H1 := [_, _]) (R1 := []) hS (fun W h => h))) p1.fAnswers Ap1_1 cp1_1 hcp1_1 (fun W hS => fp1_1 W (ok_pre (H1 := [_, _]) (R1 := []) hS (fun W h => h))) _ hx69) (fun _ _ => ?_)
           refine g_v rfl r_assign <| g_nil <| d_then <| c_seq <| c_region <| g_v rfl (r_field (n := 10) Try.underlying62 rfl Try.sizeOf32 rfl rfl) <| g_v rfl (r_load (tag := 100020) rfl rfl rfl Try.isAgg32) <| g_v rfl (r_field (n := 10) Try.underlying62 rfl Try.sizeOf32 rfl rfl) <| g_v rfl (r_load (tag := 100030) rfl rfl rfl Try.isAgg32) ?_
           replace hm := bnd hm
           obtain ⟨x70, hx71, hm⟩ := hm
           refine g_cn ⟨w0, M, _, _, φ⟩ (fun _ h => h) Try.call94 rfl rfl (c_ref06_sameRRs p0.fAuthorities Ap0_2 cp0_2 hcp0_2 (fun W hS => fp0_2 W (ok_pre (H1 := [_, _]) (R1 := []) hS (fun W h => h))) p1.fAuthorities Ap1_2 cp1_2 hcp1_2 (fun W hS => fp1_2 W (ok_pre (H1 := [_, _]) (R1 := []) hS (fun W h => h))) _ hx71) (fun _ _ => ?_)
           refine g_v rfl r_assign <| g_nil <| d_then ?_
           refine c_flat [(2, .pointer (some ⟨g1, 0, none⟩)), (3, .pointer (some ⟨g2, 0, none⟩)), (6, .bool x68), (7, .bool x70)] ⟨rfl, rfl, rfl, rfl, trivial⟩ (fun u => ?_)
           refine c_seq <| c_region <| g_v rfl (r_field (n := 11) Try.underlying62 rfl Try.sizeOf32 rfl rfl) <| g_v rfl (r_load (tag := 100020) rfl rfl rfl Try.isAgg32) <| g_v rfl (r_field (n := 11) Try.underlying62 rfl Try.sizeOf32 rfl rfl) <| g_v rfl (r_load (tag := 100030) rfl rfl rfl Try.isAgg32) ?_
           replace hm := bnd hm
           obtain ⟨x72, hx73, hm⟩ := hm
           refine g_cn ⟨w0, M, _, _, φ⟩ (fun _ h => h) Try.call94 rfl rfl (c_ref06_sameRRs p0.fExtras Ap0_3 cp0_3 hcp0_3 (fun W hS => fp0_3 W (ok_pre (H1 := [_, _]) (R1 := []) hS (fun W h => h))) p1.fExtras Ap1_3 cp1_3 hcp1_3 (fun W hS => fp1_3 W (ok_pre (H1 := [_, _]) (R1 := []) hS (fun W h => h))) _ hx73) (fun _ _ => ?_)
           refine g_v rfl r_assign <| g_nil <| d_then <| c_seq <| c_region <| g_v rfl r_move <| g_v rfl r_move ?_
           refine g_if rfl rfl rfl rfl rfl (fun h74 => ?_) (fun h74 => ?_)
           ·
            replace hm := ite_t hm h74
            refine g_v rfl r_move <| g_v rfl (r_pick1 rfl h74) <| g_v rfl r_move ?_
            refine g_if rfl rfl rfl rfl rfl (fun h75 => ?_) (fun h75 => ?_)
            ·
             replace hm := ite_t hm h75
             refine g_v rfl r_move <| g_v rfl (r_pick1 rfl h75) <| g_v rfl r_assign <| g_nil <| d_then ?_
             refine c_flat [(4, .bool x72)] ⟨rfl, trivial⟩ (fun u => ?_)
             refine c_ret ?_
             replace hm := Option.some.inj hm
             subst hm
             refine d_retC () Try.results47 ?_ trivial (fun W h => ok_pre (H1 := [_, _]) (R1 := []) h (fun W hφ => hφ)) (.inr rfl)
             refine res_tmp <| res_nil ?_
             exact rfl
            ·
             replace hm := ite_f hm (bool_nt h75)
             refine g_v rfl (r_pick0 rfl h75) <| g_v rfl r_assign <| g_nil <| d_then ?_
             refine c_flat [(4, .bool false)] ⟨rfl, trivial⟩ (fun u => ?_)
             refine c_ret ?_
             replace hm := Option.some.inj hm
             subst hm
             refine d_retC () Try.results47 ?_ trivial (fun W h => ok_pre (H1 := [_, _]) (R1 := []) h (fun W hφ => hφ)) (.inr rfl)
             refine res_tmp <| res_nil ?_
             exact rfl
           ·
            replace hm := ite_f hm (bool_nt h74)
            refine g_v rfl (r_pick0 rfl h74) <| g_v rfl r_move <| g_no rfl rfl rfl rfl rfl rfl <| g_v rfl (r_pick0 rfl rfl) <| g_v rfl r_assign <| g_nil <| d_then ?_
            refine c_flat [(4, .bool false)] ⟨rfl, trivial⟩ (fun u => ?_)
            refine c_ret ?_
            replace hm := Option.some.inj hm
            subst hm
            refine d_retC () Try.results47 ?_ trivial (fun W h => ok_pre (H1 := [_, _]) (R1 := []) h (fun W hφ => hφ)) (.inr rfl)
            refine res_tmp <| res_nil ?_
            exact rfl
        ·
         replace hm := ite_t hm (of_decide_eq_true h10)
         refine g_no rfl rfl rfl rfl rfl h10 <| g_no rfl rfl rfl rfl rfl h10 <| g_no rfl rfl rfl rfl rfl h10 <| g_no rfl rfl rfl rfl rfl h10 <| g_no rfl rfl rfl rfl rfl h10 <| g_no rfl rfl rfl rfl rfl h10 <| g_v rfl (r_pick1 rfl h10) <| g_nil <| d_then ?_
         refine c_flat [(2, .pointer (some ⟨g1, 0, none⟩)), (3, .pointer (some ⟨g2, 0, none⟩)), (71, .bool true)] ⟨rfl, rfl, rfl, trivial⟩ (fun u => ?_)
         refine c_sta ⟨w0, M, (100030, g2, .cells #[.int .u16 p1.fID, .bool p1.fResponse, .bool p1.fAuthoritative, .bool p1.fTruncated, .bool p1.fDesired, .bool p1.fAvailable, .int .i64 p1.fOpcode, .int .i64 p1.fCode, .slice Ap1_0 p1.fQuestions.length cp1_0, .slice Ap1_1 p1.fAnswers.length cp1_1, .slice Ap1_2 p1.fAuthorities.length cp1_2, .slice Ap1_3 p1.fExtras.length cp1_3] 62 (0, 0)) :: (100020, g1, .cells #[.int .u16 p0.fID, .bool p0.fResponse, .bool p0.fAuthoritative, .bool p0.fTruncated, .bool p0.fDesired, .bool p0.fAvailable, .int .i64 p0.fOpcode, .int .i64 p0.fCode, .slice Ap0_0 p0.fQuestions.length cp0_0, .slice Ap0_1 p0.fAnswers.length cp0_1, .slice Ap0_2 p0.fAuthorities.length cp0_2, .slice Ap0_3 p0.fExtras.length cp0_3] 62 (0, 0)) :: H, R, φ⟩ (fun _ h => h) <| c_cond1 rfl rfl <| c_seq <| c_region <| g_v rfl r_assign <| g_nil <| d_then <| c_ret <| d_ret_then ?_
         replace hm := Option.some.inj hm
         subst hm
         refine d_retC () Try.results47 ?_ trivial (fun W h => ok_pre (H1 := [_, _]) (R1 := []) h (fun W hφ => hφ)) (.inr rfl)
         refine res_tmp <| res_nil ?_
         exact rfl
       ·
        replace hm := ite_t hm (of_decide_eq_true h9)
        refine g_no rfl rfl rfl rfl rfl h9 <| g_no rfl rfl rfl rfl rfl h9 <| g_no rfl rfl rfl rfl rfl h9 <| g_no rfl rfl rfl rfl rfl h9 <| g_v rfl (r_pick1 rfl h9) <| g_v rfl r_move <| g_no rfl rfl rfl rfl rfl rfl <| g_no rfl rfl rfl rfl rfl rfl <| g_no rfl rfl rfl rfl rfl rfl <| g_no rfl rfl rfl rfl rfl rfl ?_
        refine g_no rfl rfl rfl rfl rfl rfl <| g_no rfl rfl rfl rfl rfl rfl <| g_no rfl rfl rfl rfl rfl rfl <| g_v rfl (r_pick1 rfl rfl) <| g_nil <| d_then ?_
        refine c_flat [(2, .pointer (some ⟨g1, 0, none⟩)), (3, .pointer (some ⟨g2, 0, none⟩)), (71, .bool true)] ⟨rfl, rfl, rfl, trivial⟩ (fun u => ?_)
        refine c_sta ⟨w0, M, (100030, g2, .cells #[.int .u16 p1.fID, .bool p1.fResponse, .bool p1.fAuthoritative, .bool p1.fTruncated, .bool p1.fDesired, .bool p1.fAvailable, .int .i64 p1.fOpcode, .int .i64 p1.fCode, .slice Ap1_0 p1.fQuestions.length cp1_0, .slice Ap1_1 p1.fAnswers.length cp1_1, .slice Ap1_2 p1.fAuthorities.length cp1_2, .slice Ap1_3 p1.fExtras.length cp1_3] 62 (0, 0)) :: (100020, g1, .cells #[.int .u16 p0.fID, .bool p0.fResponse, .bool p0.fAuthoritative, .bool p0.fTruncated, .bool p0.fDesired, .bool p0.fAvailable, .int .i64 p0.fOpcode, .int .i64 p0.fCode, .slice Ap0_0 p0.fQuestions.length cp0_0, .slice Ap0_1 p0.fAnswers.length cp0_1, .slice Ap0_2 p0.fAuthorities.length cp0_2, .slice Ap0_3 p0.fExtras.length cp0_3] 62 (0, 0)) :: H, R, φ⟩ (fun _ h => h) <| c_cond1 rfl rfl <| c_seq <| c_region <| g_v rfl r_assign <| g_nil <| d_then <| c_ret <| d_ret_then ?_
        replace hm := Option.some.inj hm
        subst hm
        refine d_retC () Try.results47 ?_ trivial (fun W h => ok_pre (H1 := [_, _]) (R1 := []) h (fun W hφ => hφ)) (.inr rfl)
        refine res_tmp <| res_nil ?_
        exact rfl
      ·
       replace hm := ite_t hm h8
       refine g_no rfl rfl rfl rfl rfl h8 <| g_no rfl rfl rfl rfl rfl h8 <| g_no rfl rfl rfl rfl rfl h8 <| g_no rfl rfl rfl rfl rfl h8 <| g_v rfl (r_pick1 rfl h8) <| g_v rfl r_move <| g_no rfl rfl rfl rfl rfl rfl <| g_no rfl rfl rfl rfl rfl rfl <| g_no rfl rfl rfl rfl rfl rfl <| g_no rfl rfl rfl rfl rfl rfl ?_
       refine g_no rfl rfl rfl rfl rfl rfl <| g_v rfl (r_pick1 rfl rfl) <| g_v rfl r_move <| g_no rfl rfl rfl rfl rfl rfl <| g_no rfl rfl rfl rfl rfl rfl <| g_no rfl rfl rfl rfl rfl rfl <| g_no rfl rfl rfl rfl rfl rfl <| g_no rfl rfl rfl rfl rfl rfl <| g_no rfl rfl rfl rfl rfl rfl <| g_no rfl rfl rfl rfl rfl rfl ?_
       refine g_v rfl (r_pick1 rfl rfl) <| g_nil <| d_then ?_
       refine c_flat [(2, .pointer (some ⟨g1, 0, none⟩)), (3, .pointer (some ⟨g2, 0, none⟩)), (71, .bool true)] ⟨rfl, rfl, rfl, trivial⟩ (fun u => ?_)
       refine c_sta ⟨w0, M, (100030, g2, .cells #[.int .u16 p1.fID, .bool p1.fResponse, .bool p1.fAuthoritative, .bool p1.fTruncated, .bool p1.fDesired, .bool p1.fAvailable, .int .i64 p1.fOpcode, .int .i64 p1.fCode, .slice Ap1_0 p1.fQuestions.length cp1_0, .slice Ap1_1 p1.fAnswers.length cp1_1, .slice Ap1_2 p1.fAuthorities.length cp1_2, .slice Ap1_3 p1.fExtras.length cp1_3] 62 (0, 0)) :: (100020, g1, .cells #[.int .u16 p0.fID, .bool p0.fResponse, .bool p0.fAuthoritative, .bool p0.fTruncated, .bool p0.fDesired, .bool p0.fAvailable, .int .i64 p0.fOpcode, .int .i64 p0.fCode, .slice Ap0_0 p0.fQuestions.length cp0_0, .slice Ap0_1 p0.fAnswers.length cp0_1, .slice Ap0_2 p0.fAuthorities.length cp0_2, .slice Ap0_3 p0.fExtras.length cp0_3] 62 (0, 0)) :: H, R, φ⟩ (fun _ h => h) <| c_cond1 rfl rfl <| c_seq <| c_region <| g_v rfl r_assign <| g_nil <| d_then <| c_ret <| d_ret_then ?_
       replace hm := Option.some.inj hm
       subst hm
       refine d_retC () Try.results47 ?_ trivial (fun W h => ok_pre (H1 := [_, _]) (R1 := []) h (fun W hφ => hφ)) (.inr rfl)
       refine res_tmp <| res_nil ?_
       exact rfl
     ·
      replace hm := ite_t hm h7
      refine g_no rfl rfl rfl rfl rfl h7 <| g_no rfl rfl rfl rfl rfl h7 <| g_no rfl rfl rfl rfl rfl h7 <| g_no rfl rfl rfl rfl rfl h7 <| g_v rfl (r_pick1 rfl h7) <| g_v rfl r_move <| g_no rfl rfl rfl rfl rfl rfl <| g_no rfl rfl rfl rfl rfl rfl <| g_no rfl rfl rfl rfl rfl rfl <| g_no rfl rfl rfl rfl rfl rfl ?_
      refine g_no rfl rfl rfl rfl rfl rfl <| g_v rfl (r_pick1 rfl rfl) <| g_v rfl r_move <| g_no rfl rfl rfl rfl rfl rfl <| g_no rfl rfl rfl rfl rfl rfl <| g_no rfl rfl rfl rfl rfl rfl <| g_no rfl rfl rfl rfl rfl rfl <| g_no rfl rfl rfl rfl rfl rfl <| g_v rfl (r_pick1 rfl rfl) <| g_v rfl r_move ?_
      refine g_no rfl rfl rfl rfl rfl rfl <| g_no rfl rfl rfl rfl rfl rfl <| g_no rfl rfl rfl rfl rfl rfl <| g_no rfl rfl rfl rfl rfl rfl <| g_no rfl rfl rfl rfl rfl rfl <| g_no rfl rfl rfl rfl rfl rfl <| g_no rfl rfl rfl rfl rfl rfl <| g_v rfl (r_pick1 rfl rfl) <| g_nil <| d_then ?_
      refine c_flat [(2, .pointer (some ⟨g1, 0, none⟩)), (3, .pointer (some ⟨g2, 0, none⟩)), (71, .bool true)] ⟨rfl, rfl, rfl, trivial⟩ (fun u => ?_)
      refine c_sta ⟨w0, M, (100030, g2, .cells #[.int .u16 p1.fID, .bool p1.fResponse, .bool p1.fAuthoritative, .bool p1.fTruncated, .bool p1.fDesired, .bool p1.fAvailable, .int .i64 p1.fOpcode, .int .i64 p1.fCode, .slice Ap1_0 p1.fQuestions.length cp1_0, .slice Ap1_1 p1.fAnswers.length cp1_1, .slice Ap1_2 p1.fAuthorities.length cp1_2, .slice Ap1_3 p1.fExtras.length cp1_3] 62 (0, 0)) :: (100020, g1, .cells #[.int .u16 p0.fID, .bool p0.fResponse, .bool p0.fAuthoritative, .bool p0.fTruncated, .bool p0.fDesired, .bool p0.fAvailable, .int .i64 p0.fOpcode, .int .i64 p0.fCode, .slice Ap0_0 p0.fQuestions.length cp0_0, .slice Ap0_1 p0.fAnswers.length cp0_1, .slice Ap0_2 p0.fAuthorities.length cp0_2, .slice Ap0_3 p0.fExtras.length cp0_3] 62 (0, 0)) :: H, R, φ⟩ (fun _ h => h) <| c_cond1 rfl rfl <| c_seq <| c_region <| g_v rfl r_assign <| g_nil <| d_then <| c_ret <| d_ret_then ?_
      replace hm := Option.some.inj hm
      subst hm
      refine d_retC () Try.results47 ?_ trivial (fun W h => ok_pre (H1 := [_, _]) (R1 := []) h (fun W hφ => hφ)) (.inr rfl)
      refine res_tmp <| res_nil ?_
      exact rfl
    ·
     replace hm := ite_t hm h6
     refine g_no rfl rfl rfl rfl rfl h6 <| g_no rfl rfl rfl rfl rfl h6 <| g_no rfl rfl rfl rfl rfl h6 <| g_no rfl rfl rfl rfl rfl h6 <| g_v rfl (r_pick1 rfl h6) <| g_v rfl r_move <| g_no rfl rfl rfl rfl rfl rfl <| g_no rfl rfl rfl rfl rfl rfl <| g_no rfl rfl rfl rfl rfl rfl <| g_no rfl rfl rfl rfl rfl rfl ?_
     refine g_no rfl rfl rfl rfl rfl rfl <| g_v rfl (r_pick1 rfl rfl) <| g_v rfl r_move <| g_no rfl rfl rfl rfl rfl rfl <| g_no rfl rfl rfl rfl rfl rfl <| g_no rfl rfl rfl rfl rfl rfl <| g_no rfl rfl rfl rfl rfl rfl <| g_no rfl rfl rfl rfl rfl rfl <| g_v rfl (r_pick1 rfl rfl) <| g_v rfl r_move ?_
     refine g_no rfl rfl rfl rfl rfl rfl <| g_no rfl rfl rfl rfl rfl rfl <| g_no rfl rfl rfl rfl rfl rfl <| g_no rfl rfl rfl rfl rfl rfl <| g_no rfl rfl rfl rfl rfl rfl <| g_v rfl (r_pick1 rfl rfl) <| g_v rfl r_move <| g_no rfl rfl rfl rfl rfl rfl <| g_no rfl rfl rfl rfl rfl rfl <| g_no rfl rfl rfl rfl rfl rfl ?_
     refine g_no rfl rfl rfl rfl rfl rfl <| g_no rfl rfl rfl rfl rfl rfl <| g_no rfl rfl rfl rfl rfl rfl <| g_no rfl rfl rfl rfl rfl rfl <| g_v rfl (r_pick1 rfl rfl) <| g_nil <| d_then ?_
     refine c_flat [(2, .pointer (some ⟨g1, 0, none⟩)), (3, .pointer (some ⟨g2, 0, none⟩)), (71, .bool true)] ⟨rfl, rfl, rfl, trivial⟩ (fun u => ?_)
     refine c_sta ⟨w0, M, (100030, g2, .cells #[.int .u16 p1.fID, .bool p1.fResponse, .bool p1.fAuthoritative, .bool p1.fTruncated, .bool p1.fDesired, .bool p1.fAvailable, .int .i64 p1.fOpcode, .int .i64 p1.fCode, .slice Ap1_0 p1.fQuestions.length cp1_0, .slice Ap1_1 p1.fAnswers.length cp1_1, .slice Ap1_2 p1.fAuthorities.length cp1_2, .slice Ap1_3 p1.fExtras.length cp1_3] 62 (0, 0)) :: (100020, g1, .cells #[.int .u16 p0.fID, .bool p0.fResponse, .bool p0.fAuthoritative, .bool p0.fTruncated, .bool p0.fDesired, .bool p0.fAvailable, .int .i64 p0.fOpcode, .int .i64 p0.fCode, .slice Ap0_0 p0.fQuestions.length cp0_0, .slice Ap0_1 p0.fAnswers.length cp0_1, .slice Ap0_2 p0.fAuthorities.length cp0_2, .slice Ap0_3 p0.fExtras.length cp0_3] 62 (0, 0)) :: H, R, φ⟩ (fun _ h => h) <| c_cond1 rfl rfl <| c_seq <| c_region <| g_v rfl r_assign <| g_nil <| d_then <| c_ret <| d_ret_then ?_
     replace hm := Option.some.inj hm
     subst hm
     refine d_retC () Try.results47 ?_ trivial (fun W h => ok_pre (H1 := [_, _]) (R1 := []) h (fun W hφ => hφ)) (.inr rfl)
     refine res_tmp <| res_nil ?_
     exact rfl
   ·
    replace hm := ite_t hm h5
    refine g_no rfl rfl rfl rfl rfl h5 <| g_no rfl rfl rfl rfl rfl h5 <| g_no rfl rfl rfl rfl rfl h5 <| g_no rfl rfl rfl rfl rfl h5 <| g_v rfl (r_pick1 rfl h5) <| g_v rfl r_move <| g_no rfl rfl rfl rfl rfl rfl <| g_no rfl rfl rfl rfl rfl rfl <| g_no rfl rfl rfl rfl rfl rfl <| g_no rfl rfl rfl rfl rfl rfl ?_
    refine g_no rfl rfl rfl rfl rfl rfl <| g_v rfl (r_pick1 rfl rfl) <| g_v rfl r_move <| g_no rfl rfl rfl rfl rfl rfl <| g_no rfl rfl rfl rfl rfl rfl <| g_no rfl rfl rfl rfl rfl rfl <| g_no rfl rfl rfl rfl rfl rfl <| g_no rfl rfl rfl rfl rfl rfl <| g_v rfl (r_pick1 rfl rfl) <| g_v rfl r_move ?_
    refine g_no rfl rfl rfl rfl rfl rfl <| g_no rfl rfl rfl rfl rfl rfl <| g_no rfl rfl rfl rfl rfl rfl <| g_no rfl rfl rfl rfl rfl rfl <| g_no rfl rfl rfl rfl rfl rfl <| g_v rfl (r_pick1 rfl rfl) <| g_v rfl r_move <| g_no rfl rfl rfl rfl rfl rfl <| g_no rfl rfl rfl rfl rfl rfl <| g_no rfl rfl rfl rfl rfl rfl ?_
    refine g_no rfl rfl rfl rfl rfl rfl <| g_no rfl rfl rfl rfl rfl rfl <| g_v rfl (r_pick1 rfl rfl) <| g_v rfl r_move <| g_no rfl rfl rfl rfl rfl rfl <| g_no rfl rfl rfl rfl rfl rfl <| g_no rfl rfl rfl rfl rfl rfl <| g_no rfl rfl rfl rfl rfl rfl <| g_no rfl rfl rfl rfl rfl rfl <| g_no rfl rfl rfl rfl rfl rfl ?_
    refine g_no rfl rfl rfl rfl rfl rfl <| g_v rfl (r_pick1 rfl rfl) <| g_nil <| d_then ?_
    refine c_flat [(2, .pointer (some ⟨g1, 0, none⟩)), (3, .pointer (some ⟨g2, 0, none⟩)), (71, .bool true)] ⟨rfl, rfl, rfl, trivial⟩ (fun u => ?_)
    refine c_sta ⟨w0, M, (100030, g2, .cells #[.int .u16 p1.fID, .bool p1.fResponse, .bool p1.fAuthoritative, .bool p1.fTruncated, .bool p1.fDesired, .bool p1.fAvailable, .int .i64 p1.fOpcode, .int .i64 p1.fCode, .slice Ap1_0 p1.fQuestions.length cp1_0, .slice Ap1_1 p1.fAnswers.length cp1_1, .slice Ap1_2 p1.fAuthorities.length cp1_2, .slice Ap1_3 p1.fExtras.length cp1_3] 62 (0, 0)) :: (100020, g1, .cells #[.int .u16 p0.fID, .bool p0.fResponse, .bool p0.fAuthoritative, .bool p0.fTruncated, .bool p0.fDesired, .bool p0.fAvailable, .int .i64 p0.fOpcode, .int .i64 p0.fCode, .slice Ap0_0 p0.fQuestions.length cp0_0, .slice Ap0_1 p0.fAnswers.length cp0_1, .slice Ap0_2 p0.fAuthorities.length cp0_2, .slice Ap0_3 p0.fExtras.length cp0_3] 62 (0, 0)) :: H, R, φ⟩ (fun _ h => h) <| c_cond1 rfl rfl <| c_seq <| c_region <| g_v rfl r_assign <| g_nil <| d_then <| c_ret <| d_ret_then ?_
    replace hm := Option.some.inj hm
    subst hm
    refine d_retC () Try.results47 ?_ trivial (fun W h => ok_pre (H1 := [_, _]) (R1 := []) h (fun W hφ => hφ)) (.inr rfl)
    refine res_tmp <| res_nil ?_
    exact rfl
  ·
   replace hm := ite_t hm h4
   refine g_no rfl rfl rfl rfl rfl h4 <| g_no rfl rfl rfl rfl rfl h4 <| g_no rfl rfl rfl rfl rfl h4 <| g_no rfl rfl rfl rfl rfl h4 <| g_v rfl (r_pick1 rfl h4) <| g_v rfl r_move <| g_no rfl rfl rfl rfl rfl rfl <| g_no rfl rfl rfl rfl rfl rfl <| g_no rfl rfl rfl rfl rfl rfl <| g_no rfl rfl rfl rfl rfl rfl ?_
   refine g_no rfl rfl rfl rfl rfl rfl <| g_v rfl (r_pick1 rfl rfl) <| g_v rfl r_move <| g_no rfl rfl rfl rfl rfl rfl <| g_no rfl rfl rfl rfl rfl rfl <| g_no rfl rfl rfl rfl rfl rfl <| g_no rfl rfl rfl rfl rfl rfl <| g_no rfl rfl rfl rfl rfl rfl <| g_v rfl (r_pick1 rfl rfl) <| g_v rfl r_move ?_
   refine g_no rfl rfl rfl rfl rfl rfl <| g_no rfl rfl rfl rfl rfl rfl <| g_no rfl rfl rfl rfl rfl rfl <| g_no rfl rfl rfl rfl rfl rfl <| g_no rfl rfl rfl rfl rfl rfl <| g_v rfl (r_pick1 rfl rfl) <| g_v rfl r_move <| g_no rfl rfl rfl rfl rfl rfl <| g_no rfl rfl rfl rfl rfl rfl <| g_no rfl rfl rfl rfl rfl rfl ?_
   refine g_no rfl rfl rfl rfl rfl rfl <| g_no rfl rfl rfl rfl rfl rfl <| g_v rfl (r_pick1 rfl rfl) <| g_v rfl r_move <| g_no rfl rfl rfl rfl rfl rfl <| g_no rfl rfl rfl rfl rfl rfl <| g_no rfl rfl rfl rfl rfl rfl <| g_no rfl rfl rfl rfl rfl rfl <| g_no rfl rfl rfl rfl rfl rfl <| g_v rfl (r_pick1 rfl rfl) ?_
   refine g_v rfl r_move <| g_no rfl rfl rfl rfl rfl rfl <| g_no rfl rfl rfl rfl rfl rfl <| g_no rfl rfl rfl rfl rfl rfl <| g_no rfl rfl rfl rfl rfl rfl <| g_no rfl rfl rfl rfl rfl rfl <| g_no rfl rfl rfl rfl rfl rfl <| g_no rfl rfl rfl rfl rfl rfl <| g_v rfl (r_pick1 rfl rfl) <| g_nil ?_
   refine d_then ?_
   refine c_flat [(2, .pointer (some ⟨g1, 0, none⟩)), (3, .pointer (some ⟨g2, 0, none⟩)), (71, .bool true)] ⟨rfl, rfl, rfl, trivial⟩ (fun u => ?_)
   refine c_sta ⟨w0, M, (100030, g2, .cells #[.int .u16 p1.fID, .bool p1.fResponse, .bool p1.fAuthoritative, .bool p1.fTruncated, .bool p1.fDesired, .bool p1.fAvailable, .int .i64 p1.fOpcode, .int .i64 p1.fCode, .slice Ap1_0 p1.fQuestions.length cp1_0, .slice Ap1_1 p1.fAnswers.length cp1_1, .slice Ap1_2 p1.fAuthorities.length cp1_2, .slice Ap1_3 p1.fExtras.length cp1_3] 62 (0, 0)) :: (100020, g1, .cells #[.int .u16 p0.fID, .bool p0.fResponse, .bool p0.fAuthoritative, .bool p0.fTruncated, .bool p0.fDesired, .bool p0.fAvailable, .int .i64 p0.fOpcode, .int .i64 p0.fCode, .slice Ap0_0 p0.fQuestions.length cp0_0, .slice Ap0_1 p0.fAnswers.length cp0_1, .slice Ap0_2 p0.fAuthorities.length cp0_2, .slice Ap0_3 p0.fExtras.length cp0_3] 62 (0, 0)) :: H, R, φ⟩ (fun _ h => h) <| c_cond1 rfl rfl <| c_seq <| c_region <| g_v rfl r_assign <| g_nil <| d_then <| c_ret <| d_ret_then ?_
   replace hm := Option.some.inj hm
   subst hm
   refine d_retC () Try.results47 ?_ trivial (fun W h => ok_pre (H1 := [_, _]) (R1 := []) h (fun W hφ => hφ)) (.inr rfl)
   refine res_tmp <| res_nil ?_
   exact rfl
 ·
  replace hm := ite_t hm (of_decide_eq_true h3)
  refine g_no rfl rfl rfl rfl rfl h3 <| g_no rfl rfl rfl rfl rfl h3 <| g_no rfl rfl rfl rfl rfl h3 <| g_no rfl rfl rfl rfl rfl h3 <| g_v rfl (r_pick1 rfl h3) <| g_v rfl r_move <| g_no rfl rfl rfl rfl rfl rfl <| g_no rfl rfl rfl rfl rfl rfl <| g_no rfl rfl rfl rfl rfl rfl <| g_no rfl rfl rfl rfl rfl rfl ?_
  refine g_no rfl rfl rfl rfl rfl rfl <| g_v rfl (r_pick1 rfl rfl) <| g_v rfl r_move <| g_no rfl rfl rfl rfl rfl rfl <| g_no rfl rfl rfl rfl rfl rfl <| g_no rfl rfl rfl rfl rfl rfl <| g_no rfl rfl rfl rfl rfl rfl <| g_no rfl rfl rfl rfl rfl rfl <| g_v rfl (r_pick1 rfl rfl) <| g_v rfl r_move ?_
  refine g_no rfl rfl rfl rfl rfl rfl <| g_no rfl rfl rfl rfl rfl rfl <| g_no rfl rfl rfl rfl rfl rfl <| g_no rfl rfl rfl rfl rfl rfl <| g_no rfl rfl rfl rfl rfl rfl <| g_v rfl (r_pick1 rfl rfl) <| g_v rfl r_move <| g_no rfl rfl rfl rfl rfl rfl <| g_no rfl rfl rfl rfl rfl rfl <| g_no rfl rfl rfl rfl rfl rfl ?_
  refine g_no rfl rfl rfl rfl rfl rfl <| g_no rfl rfl rfl rfl rfl rfl <| g_v rfl (r_pick1 rfl rfl) <| g_v rfl r_move <| g_no rfl rfl rfl rfl rfl rfl <| g_no rfl rfl rfl rfl rfl rfl <| g_no rfl rfl rfl rfl rfl rfl <| g_no rfl rfl rfl rfl rfl rfl <| g_no rfl rfl rfl rfl rfl rfl <| g_v rfl (r_pick1 rfl rfl) ?_
  refine g_v rfl r_move <| g_no rfl rfl rfl rfl rfl rfl <| g_no rfl rfl rfl rfl rfl rfl <| g_no rfl rfl rfl rfl rfl rfl <| g_no rfl rfl rfl rfl rfl rfl <| g_no rfl rfl rfl rfl rfl rfl <| g_v rfl (r_pick1 rfl rfl) <| g_v rfl r_move <| g_no rfl rfl rfl rfl rfl rfl <| g_no rfl rfl rfl rfl rfl rfl ?_
  refine g_no rfl rfl rfl rfl rfl rfl <| g_no rfl rfl rfl rfl rfl rfl <| g_no rfl rfl rfl rfl rfl rfl <| g_no rfl rfl rfl rfl rfl rfl <| g_no rfl rfl rfl rfl rfl rfl <| g_v rfl (r_pick1 rfl rfl) <| g_nil <| d_then ?_
  refine c_flat [(2, .pointer (some ⟨g1, 0, none⟩)), (3, .pointer (some ⟨g2, 0, none⟩)), (71, .bool true)] ⟨rfl, rfl, rfl, trivial⟩ (fun u => ?_)
  refine c_sta ⟨w0, M, (100030, g2, .cells #[.int .u16 p1.fID, .bool p1.fResponse, .bool p1.fAuthoritative, .bool p1.fTruncated, .bool p1.fDesired, .bool p1.fAvailable, .int .i64 p1.fOpcode, .int .i64 p1.fCode, .slice Ap1_0 p1.fQuestions.length cp1_0, .slice Ap1_1 p1.fAnswers.length cp1_1, .slice Ap1_2 p1.fAuthorities.length cp1_2, .slice Ap1_3 p1.fExtras.length cp1_3] 62 (0, 0)) :: (100020, g1, .cells #[.int .u16 p0.fID, .bool p0.fResponse, .bool p0.fAuthoritative, .bool p0.fTruncated, .bool p0.fDesired, .bool p0.fAvailable, .int .i64 p0.fOpcode, .int .i64 p0.fCode, .slice Ap0_0 p0.fQuestions.length cp0_0, .slice Ap0_1 p0.fAnswers.length cp0_1, .slice Ap0_2 p0.fAuthorities.length cp0_2, .slice Ap0_3 p0.fExtras.length cp0_3] 62 (0, 0)) :: H, R, φ⟩ (fun _ h => h) <| c_cond1 rfl rfl <| c_seq <| c_region <| g_v rfl r_assign <| g_nil <| d_then <| c_ret <| d_ret_then ?_
  replace hm := Option.some.inj hm
  subst hm
  refine d_retC () Try.results47 ?_ trivial (fun W h => ok_pre (H1 := [_, _]) (R1 := []) h (fun W hφ => hφ)) (.inr rfl)
  refine res_tmp <| res_nil ?_
  exact rfl
noncomputable def m_law06_MessageHeads (p0 : GMessage) (p1 : Int) : Option Bool :=
  (m_law06_awake).bind fun x2 =>
  (m_law06_small p0).bind fun x4 =>
  (m_message_Bytes x4).bind fun (z22 : ByteArray × Int) =>
  if z22.2 ≠ 0 then
    if x2 = true then
      some (decide (z22.2 ≠ 0))
    else
      some false
  else
    if (z22.1.size : Int) < 12 then
      if x2 = true then
        some (decide (z22.2 ≠ 0))
      else
        some false
    else
      (at_ (bytesI z22.1) 3).bind fun x33 =>
      (at_ (bytesI z22.1) 3).bind fun x37 =>
      (setAt (bytesI z22.1) 3 (orI .u8 x33 (IntKind.u8.wrap ((IntKind.u8.wrap (andI .i64 p1 7)) * 16)))).bind fun l41 =>
      (m_message_Head (strOfNums l41)).bind fun (z58 : GMessage × Int) =>
      (m_ref06_Same z58.1 (⟨x4.fID, x4.fResponse, x4.fAuthoritative, x4.fTruncated, x4.fDesired, x4.fAvailable, x4.fOpcode, x4.fCode, ([] : List GQuestion), ([] : List GRR), ([] : List GRR), ([] : List GRR)⟩ : GMessage)).bind fun x61 =>
      (m_message_Read (strOfNums l41)).bind fun (z79 : GMessage × Int) =>
      (m_ref06_Same z79.1 x4).bind fun x81 =>
      if x2 = true then
        if z58.2 = 0 then
          if x61 = true then
            if z79.2 = 0 then
              some x81
            else
              some false
          else
            some false
        else
          some false
      else
        some false
theorem c_law06_MessageHeads {w0 : World} {M : Nat → Prop} {H : List (Nat × Nat × Obj)} {R : List (Nat × Row)} {φ : World → Prop} (p0 : GMessage) (Ap0_0 : Option Addr) (cp0_0 : Nat) (hcp0_0 : p0.fQuestions.length ≤ cp0_0) (fp0_0 : ∀ W, (Sta.mk w0 M H R φ).ok W → Cl W Ap0_0 (p0.fQuestions.flatMap GQuestion.enc)) (Ap0_1 : Option Addr) (cp0_1 : Nat) (hcp0_1 : p0.fAnswers.length ≤ cp0_1) (fp0_1 : ∀ W, (Sta.mk w0 M H R φ).ok W → Cl W Ap0_1 (p0.fAnswers.flatMap GRR.enc)) (Ap0_2 : Option Addr) (cp0_2 : Nat) (hcp0_2 : p0.fAuthorities.length ≤ cp0_2) (fp0_2 : ∀ W, (Sta.mk w0 M H R φ).ok W → Cl W Ap0_2 (p0.fAuthorities.flatMap GRR.enc)) (Ap0_3 : Option Addr) (cp0_3 : Nat) (hcp0_3 : p0.fExtras.length ≤ cp0_3) (fp0_3 : ∀ W, (Sta.mk w0 M H R φ).ok W → Cl W Ap0_3 (p0.fExtras.flatMap GRR.enc)) (p1 : Int) (r : Bool) (hm : m_law06_MessageHeads p0 p1 = some r) :
    Cn Try.prog 14 #[.agg #[.int .u16 p0.fID, .bool p0.fResponse, .bool p0.fAuthoritative, .bool p0.fTruncated, .bool p0.fDesired, .bool p0.fAvailable, .int .i64 p0.fOpcode, .int .i64 p0.fCode, .slice Ap0_0 p0.fQuestions.length cp0_0, .slice Ap0_1 p0.fAnswers.length cp0_1, .slice Ap0_2 p0.fAuthorities.length cp0_2, .slice Ap0_3 p0.fExtras.length cp0_3], .int .i64 p1] ⟨w0, M, H, R, φ⟩ (fun x : Unit => .bool r) (fun x => True) (fun x => ⟨w0, M, H, R, φ⟩) := by
 unfold m_law06_MessageHeads at hm
 refine cn_intro (fn := Try.f14) (N := 86) Try.func14 rfl Try.ntmps14 rfl <| c_seq <| c_region ?_
 refine g_e rfl (e_box 100020 rfl) (fun g1 _ => ?_)
 refine g_v rfl r_assign <| g_nil <| d_then <| c_seq <| c_region ?_
 replace hm := bnd hm
 obtain ⟨x2, hx3, hm⟩ := hm
 refine g_cn ⟨w0, M, _, _, φ⟩ (fun _ h => h) Try.call38 rfl rfl (c_law06_awake  _ hx3) (fun _ _ => ?_)
 refine g_v rfl r_assign <| g_nil <| d_then <| c_seq <| c_region <| g_v rfl (r_loadA (tag := 100020) rfl rfl Try.isAgg62 Try.sizeOf62 rfl rfl) ?_
 replace hm := bnd hm
 obtain ⟨x4, hx5, hm⟩ := hm
 refine g_cn ⟨w0, M, _, _, φ⟩ (fun _ h => h) Try.call39 rfl rfl (c_law06_small p0 Ap0_0 cp0_0 hcp0_0 (fun W hS => fp0_0 W (ok_pre (H1 := [_]) (R1 := []) hS (fun W h => h))) Ap0_1 cp0_1 hcp0_1 (fun W hS => fp0_1 W (ok_pre (H1 := [_]) (R1 := []) hS (fun W h => h))) Ap0_2 cp0_2 hcp0_2 (fun W hS => fp0_2 W (ok_pre (H1 := [_]) (R1 := []) hS (fun W h => h))) Ap0_3 cp0_3 hcp0_3 (fun W hS => fp0_3 W (ok_pre (H1 := [_]) (R1 := []) hS (fun W h => h))) _ hx5) (fun ⟨A6, c7, A9, c10, A12, c13, A15, c16⟩ ⟨hc7, hc10, hc13, hc16⟩ => ?_)
 refine g_abs (fun φ18 q18' => ?_)
 have q18 : ∀ W, φ18 W → φ W := fun W h => (q18' W h).1
 have f8 := fun (W : World) (h : φ18 W) => (q18' W h).2.1
 have f11 := fun (W : World) (h : φ18 W) => (q18' W h).2.2.1
 have f14 := fun (W : World) (h : φ18 W) => (q18' W h).2.2.2.1
 have f17 := fun (W : World) (h : φ18 W) => (q18' W h).2.2.2.2
 refine g_storeL (tag := 100020) rfl rfl rfl rfl Try.sizeOf62 rfl rfl <| g_nil <| d_then <| c_seq <| c_region <| g_v rfl (r_loadA (tag := 100020) rfl rfl Try.isAgg62 Try.sizeOf62 rfl rfl) ?_
 replace hm := bnd hm
 obtain ⟨⟨x19, x20⟩, hx21, hm⟩ := hm
 refine g_cn ⟨w0, M, _, _, φ18⟩ (fun _ h => h) Try.call40 rfl rfl (c_message_Bytes x4 A6 c7 hc7 (fun W hS => f8 W hS.now) A9 c10 hc10 (fun W h => f11 W h) A12 c13 hc13 (fun W h => f14 W h) A15 c16 hc16 (fun W h => f17 W h) _ hx21) (fun _ _ => ?_)
 refine g_v rfl r_move <| g_v rfl (r_extract rfl rfl) <| g_v rfl (r_extract rfl rfl) <| g_v rfl r_assign <| g_v rfl r_assign <| g_nil <| d_then ?_
 refine c_flat [(1, .int .i64 p1), (2, .pointer (some ⟨g1, 0, none⟩)), (5, .bool x2), (6, .string x19), (7, .int .i64 x20)] ⟨rfl, rfl, rfl, rfl, rfl, trivial⟩ (fun u => ?_)
 refine c_sta ⟨w0, M, (100020, g1, .cells #[.int .u16 x4.fID, .bool x4.fResponse, .bool x4.fAuthoritative, .bool x4.fTruncated, .bool x4.fDesired, .bool x4.fAvailable, .int .i64 x4.fOpcode, .int .i64 x4.fCode, .slice A6 x4.fQuestions.length c7, .slice A9 x4.fAnswers.length c10, .slice A12 x4.fAuthorities.length c13, .slice A15 x4.fExtras.length c16] 62 (0, 0)) :: H, R, φ18⟩ (fun _ h => h) <| c_seq <| c_seq <| c_region <| g_v rfl r_move <| g_v rfl (r_neq rfl rfl) <| g_v rfl r_move ?_
 refine g_if rfl rfl rfl rfl rfl (fun h23 => ?_) (fun h23 => ?_)
 ·
  replace hm := ite_f hm (of_decide_eq_false h23)
  refine g_v rfl r_move <| g_do rfl rfl rfl rfl rfl h23 <| g_v rfl (r_len Try.underlying9 rfl) <| g_do rfl rfl rfl rfl rfl h23 <| g_v rfl (r_lss rfl rfl) <| g_v rfl (r_pick0 rfl h23) <| g_nil <| d_then ?_
  refine c_cond rfl (fun h24 => ?_) (fun h24 => ?_)
  ·
   replace hm := ite_t hm (of_decide_eq_true h24)
   refine c_seq <| c_region <| g_v rfl r_move <| g_v rfl r_move ?_
   refine g_if rfl rfl rfl rfl rfl (fun h25 => ?_) (fun h25 => ?_)
   ·
    replace hm := ite_t hm h25
    refine g_v rfl r_move <| g_do rfl rfl rfl rfl rfl h25 <| g_v rfl (r_neq rfl rfl) <| g_v rfl (r_pick1 rfl h25) <| g_v rfl r_assign <| g_nil <| d_then ?_
    refine c_flat [(4, .bool (decide (x20 ≠ 0)))] ⟨rfl, trivial⟩ (fun u => ?_)
    refine c_ret <| d_ret_then ?_
    replace hm := Option.some.inj hm
    subst hm
    refine d_retC () Try.results14 ?_ trivial (fun W h => ok_pre (H1 := [_]) (R1 := []) h (fun W hφ => (q18 _ hφ))) (.inr rfl)
    refine res_tmp <| res_nil ?_
    exact rfl
   ·
    replace hm := ite_f hm (bool_nt h25)
    refine g_no rfl rfl rfl rfl rfl h25 <| g_v rfl (r_pick0 rfl h25) <| g_v rfl r_assign <| g_nil <| d_then ?_
    refine c_flat [(4, .bool false)] ⟨rfl, trivial⟩ (fun u => ?_)
    refine c_ret <| d_ret_then ?_
    replace hm := Option.some.inj hm
    subst hm
    refine d_retC () Try.results14 ?_ trivial (fun W h => ok_pre (H1 := [_]) (R1 := []) h (fun W hφ => (q18 _ hφ))) (.inr rfl)
    refine res_tmp <| res_nil ?_
    exact rfl
  ·
   replace hm := ite_f hm (of_decide_eq_false h24)
   refine c_skip <| d_then <| c_seq <| c_region <| g_v rfl r_move ?_
   refine g_e rfl (e_bytesH 100370 Try.underlying9 Try.underlying77 Try.underlying5 rfl) (fun ⟨g30, c31, T32⟩ hc31 => ?_)
   refine g_v rfl r_assign <| g_nil <| d_then ?_
   refine c_flat [(1, .int .i64 p1), (2, .pointer (some ⟨g1, 0, none⟩)), (5, .bool x2), (8, .slice (some ⟨g30, 0, none⟩) ((bytesI x19).length) c31)] ⟨rfl, rfl, rfl, rfl, trivial⟩ (fun u => ?_)
   refine c_sta ⟨w0, M, (100370, g30, rowO (bytesI x19) T32 5) :: (100020, g1, .cells #[.int .u16 x4.fID, .bool x4.fResponse, .bool x4.fAuthoritative, .bool x4.fTruncated, .bool x4.fDesired, .bool x4.fAvailable, .int .i64 x4.fOpcode, .int .i64 x4.fCode, .slice A6 x4.fQuestions.length c7, .slice A9 x4.fAnswers.length c10, .slice A12 x4.fAuthorities.length c13, .slice A15 x4.fExtras.length c16] 62 (0, 0)) :: H, R, φ18⟩ (fun _ h => h) <| c_seq <| c_region <| g_v rfl r_move <| g_v rfl r_move ?_
   replace hm := bnd hm
   obtain ⟨x33, hx33, hm⟩ := hm
   refine g_know _ (fun W hS => cl_at (p := (Sta.ok ⟨w0, M, (100370, g30, rowO (bytesI x19) T32 5) :: (100020, g1, .cells #[.int .u16 x4.fID, .bool x4.fResponse, .bool x4.fAuthoritative, .bool x4.fTruncated, .bool x4.fDesired, .bool x4.fAvailable, .int .i64 x4.fOpcode, .int .i64 x4.fCode, .slice A6 x4.fQuestions.length c7, .slice A9 x4.fAnswers.length c10, .slice A12 x4.fAuthorities.length c13, .slice A15 x4.fExtras.length c16] 62 (0, 0)) :: H, R, φ18⟩)) (sz := 1) (fun _ => rfl) (by decide) hS (hrowCl (S := ⟨w0, M, (100370, g30, rowO (bytesI x19) T32 5) :: (100020, g1, .cells #[.int .u16 x4.fID, .bool x4.fResponse, .bool x4.fAuthoritative, .bool x4.fTruncated, .bool x4.fDesired, .bool x4.fAvailable, .int .i64 x4.fOpcode, .int .i64 x4.fCode, .slice A6 x4.fQuestions.length c7, .slice A9 x4.fAnswers.length c10, .slice A12 x4.fAuthorities.length c13, .slice A15 x4.fExtras.length c16] 62 (0, 0)) :: H, R, φ18⟩) (tag := 100370) rfl) hx33) ?_
   rintro ⟨ad34, hA36, f35⟩
   refine g_v rfl (r_ixN rfl Try.underlying77 Try.sizeOf5 rfl hA36 rfl hx33) <| g_v rfl (r_ld rfl Try.isAgg5 (fun W hS => Cl.head (f35 W hS))) <| g_v rfl r_move <| g_v rfl (r_bits_and rfl rfl) <| g_v rfl (r_conv Try.underlying3 Try.underlying5 rfl rfl) <| g_v rfl (r_shl (n := 16) rfl rfl (by decide) (by decide) (by decide)) <| g_v rfl (r_bits_or rfl rfl) ?_
   replace hm := bnd hm
   obtain ⟨x37, hx37, hm⟩ := hm
   refine g_know _ (fun W hS => cl_at (p := (Sta.ok ⟨w0, M, (100370, g30, rowO (bytesI x19) T32 5) :: (100020, g1, .cells #[.int .u16 x4.fID, .bool x4.fResponse, .bool x4.fAuthoritative, .bool x4.fTruncated, .bool x4.fDesired, .bool x4.fAvailable, .int .i64 x4.fOpcode, .int .i64 x4.fCode, .slice A6 x4.fQuestions.length c7, .slice A9 x4.fAnswers.length c10, .slice A12 x4.fAuthorities.length c13, .slice A15 x4.fExtras.length c16] 62 (0, 0)) :: H, R, φ18⟩)) (sz := 1) (fun _ => rfl) (by decide) hS (hrowCl (S := ⟨w0, M, (100370, g30, rowO (bytesI x19) T32 5) :: (100020, g1, .cells #[.int .u16 x4.fID, .bool x4.fResponse, .bool x4.fAuthoritative, .bool x4.fTruncated, .bool x4.fDesired, .bool x4.fAvailable, .int .i64 x4.fOpcode, .int .i64 x4.fCode, .slice A6 x4.fQuestions.length c7, .slice A9 x4.fAnswers.length c10, .slice A12 x4.fAuthorities.length c13, .slice A15 x4.fExtras.length c16] 62 (0, 0)) :: H, R, φ18⟩) (tag := 100370) rfl) hx37) ?_
   rintro ⟨ad38, hA40, f39⟩
   refine g_v rfl (r_ixN rfl Try.underlying77 Try.sizeOf5 rfl hA40 rfl hx37) ?_
   replace hm := bnd hm
   obtain ⟨l41, hl41, hm⟩ := hm
   refine g_stH (tag := 100370) (l := (bytesI x19)) rfl rfl hA40 rfl hl41 rfl Try.sizeOf5 <| g_nil <| d_then ?_
   refine c_flat [(2, .pointer (some ⟨g1, 0, none⟩)), (5, .bool x2), (8, .slice (some ⟨g30, 0, none⟩) ((bytesI x19).length) c31)] ⟨rfl, rfl, rfl, trivial⟩ (fun u => ?_)
   refine c_sta ⟨w0, M, (100370, g30, rowO l41 T32 5) :: (100020, g1, .cells #[.int .u16 x4.fID, .bool x4.fResponse, .bool x4.fAuthoritative, .bool x4.fTruncated, .bool x4.fDesired, .bool x4.fAvailable, .int .i64 x4.fOpcode, .int .i64 x4.fCode, .slice A6 x4.fQuestions.length c7, .slice A9 x4.fAnswers.length c10, .slice A12 x4.fAuthorities.length c13, .slice A15 x4.fExtras.length c16] 62 (0, 0)) :: H, R, φ18⟩ (fun _ h => h) <| c_seq <| c_region <| g_v rfl r_move <| g_v rfl (r_textN ((setAt_lenE hl41).trans rfl) Try.underlying77 Try.underlying5 Try.underlying9 rfl (hrowCl (tag := 100370) rfl)) ?_
   replace hm := bnd hm
   obtain ⟨⟨x42, x43⟩, hx44, hm⟩ := hm
   refine g_cn ⟨w0, M, _, _, φ18⟩ (fun _ h => h) Try.call45 rfl rfl (c_message_Head (strOfNums l41) _ hx44) (fun ⟨A45, c46, A48, c49, A51, c52, A54, c55⟩ ⟨hc46, hc49, hc52, hc55⟩ => ?_)
   refine g_abs (fun φ57 q57' => ?_)
   have q57 : ∀ W, φ57 W → φ18 W := fun W h => (q57' W h).1
   have f47 := fun (W : World) (h : φ57 W) => (q57' W h).2.1
   have f50 := fun (W : World) (h : φ57 W) => (q57' W h).2.2.1
   have f53 := fun (W : World) (h : φ57 W) => (q57' W h).2.2.2.1
   have f56 := fun (W : World) (h : φ57 W) => (q57' W h).2.2.2.2
   refine g_v rfl r_move <| g_v rfl (r_extract rfl rfl) <| g_v rfl (r_extract rfl rfl) ?_
   refine g_e rfl (e_alloc 100090 Try.zeroValue62) (fun g59 _ => ?_)
   refine g_storeL (tag := 100090) rfl rfl rfl rfl Try.sizeOf62 rfl rfl <| g_v rfl r_assign <| g_nil <| d_then ?_
   refine c_flat [(2, .pointer (some ⟨g1, 0, none⟩)), (5, .bool x2), (8, .slice (some ⟨g30, 0, none⟩) ((bytesI x19).length) c31), (9, .pointer (some ⟨g59, 0, none⟩)), (10, .int .i64 x43)] ⟨rfl, rfl, rfl, rfl, rfl, trivial⟩ (fun u => ?_)
   refine c_sta ⟨w0, M, (100090, g59, .cells #[.int .u16 x42.fID, .bool x42.fResponse, .bool x42.fAuthoritative, .bool x42.fTruncated, .bool x42.fDesired, .bool x42.fAvailable, .int .i64 x42.fOpcode, .int .i64 x42.fCode, .slice A45 x42.fQuestions.length c46, .slice A48 x42.fAnswers.length c49, .slice A51 x42.fAuthorities.length c52, .slice A54 x42.fExtras.length c55] 62 (0, 0)) :: (100370, g30, rowO l41 T32 5) :: (100020, g1, .cells #[.int .u16 x4.fID, .bool x4.fResponse, .bool x4.fAuthoritative, .bool x4.fTruncated, .bool x4.fDesired, .bool x4.fAvailable, .int .i64 x4.fOpcode, .int .i64 x4.fCode, .slice A6 x4.fQuestions.length c7, .slice A9 x4.fAnswers.length c10, .slice A12 x4.fAuthorities.length c13, .slice A15 x4.fExtras.length c16] 62 (0, 0)) :: H, R, φ57⟩ (fun _ h => h) <| c_seq <| c_region <| g_v rfl (r_loadA (tag := 100020) rfl rfl Try.isAgg62 Try.sizeOf62 rfl rfl) ?_
   refine g_e rfl (e_alloc 100110 Try.zeroValue62) (fun g60 _ => ?_)
   refine g_storeL (tag := 100110) rfl rfl rfl rfl Try.sizeOf62 rfl rfl <| g_nil <| d_then <| c_seq <| c_region <| g_v rfl (r_field (n := 8) Try.underlying62 rfl Try.sizeOf60 rfl rfl) <| g_storeL (tag := 100110) rfl rfl rfl rfl Try.sizeOf60 rfl rfl <| g_nil <| d_then <| c_seq ?_
   refine c_region <| g_v rfl (r_field (n := 9) Try.underlying62 rfl Try.sizeOf32 rfl rfl) <| g_storeL (tag := 100110) rfl rfl rfl rfl Try.sizeOf32 rfl rfl <| g_nil <| d_then <| c_seq <| c_region <| g_v rfl (r_field (n := 10) Try.underlying62 rfl Try.sizeOf32 rfl rfl) <| g_storeL (tag := 100110) rfl rfl rfl rfl Try.sizeOf32 rfl rfl <| g_nil ?_
   refine d_then ?_
   refine c_flat [(2, .pointer (some ⟨g1, 0, none⟩)), (5, .bool x2), (8, .slice (some ⟨g30, 0, none⟩) ((bytesI x19).length) c31), (9, .pointer (some ⟨g59, 0, none⟩)), (10, .int .i64 x43), (11, .pointer (some ⟨g60, 0, none⟩))] ⟨rfl, rfl, rfl, rfl, rfl, rfl, trivial⟩ (fun u => ?_)
   refine c_sta ⟨w0, M, (100110, g60, .cells #[.int .u16 x4.fID, .bool x4.fResponse, .bool x4.fAuthoritative, .bool x4.fTruncated, .bool x4.fDesired, .bool x4.fAvailable, .int .i64 x4.fOpcode, .int .i64 x4.fCode, .slice none 0 0, .slice none 0 0, .slice none 0 0, .slice A15 x4.fExtras.length c16] 62 (0, 0)) :: (100090, g59, .cells #[.int .u16 x42.fID, .bool x42.fResponse, .bool x42.fAuthoritative, .bool x42.fTruncated, .bool x42.fDesired, .bool x42.fAvailable, .int .i64 x42.fOpcode, .int .i64 x42.fCode, .slice A45 x42.fQuestions.length c46, .slice A48 x42.fAnswers.length c49, .slice A51 x42.fAuthorities.length c52, .slice A54 x42.fExtras.length c55] 62 (0, 0)) :: (100370, g30, rowO l41 T32 5) :: (100020, g1, .cells #[.int .u16 x4.fID, .bool x4.fResponse, .bool x4.fAuthoritative, .bool x4.fTruncated, .bool x4.fDesired, .bool x4.fAvailable, .int .i64 x4.fOpcode, .int .i64 x4.fCode, .slice A6 x4.fQuestions.length c7, .slice A9 x4.fAnswers.length c10, .slice A12 x4.fAuthorities.length c13, .slice A15 x4.fExtras.length c16] 62 (0, 0)) :: H, R, φ57⟩ (fun _ h => h) <| c_seq <| c_region <| g_v rfl (r_field (n := 11) Try.underlying62 rfl Try.sizeOf32 rfl rfl) <| g_storeL (tag := 100110) rfl rfl rfl rfl Try.sizeOf32 rfl rfl <| g_nil <| d_then <| c_seq <| c_region <| g_v rfl (r_loadA (tag := 100090) rfl rfl Try.isAgg62 Try.sizeOf62 rfl rfl) ?_
   refine g_v rfl (r_loadA (tag := 100110) rfl rfl Try.isAgg62 Try.sizeOf62 rfl rfl) ?_
   replace hm := bnd hm
   obtain ⟨x61, hx62, hm⟩ := hm
   refine g_cn ⟨w0, M, _, _, φ57⟩ (fun _ h => h) Try.call47 rfl rfl (c_ref06_Same x42 A45 c46 hc46 (fun W hS => f47 W hS.now) A48 c49 hc49 (fun W hS => f50 W hS.now) A51 c52 hc52 (fun W hS => f53 W hS.now) A54 c55 hc55 (fun W hS => f56 W hS.now) (⟨x4.fID, x4.fResponse, x4.fAuthoritative, x4.fTruncated, x4.fDesired, x4.fAvailable, x4.fOpcode, x4.fCode, ([] : List GQuestion), ([] : List GRR), ([] : List GRR), ([] : List GRR)⟩ : GMessage) none 0 (Nat.le_refl 0) (fun W _ => Cl.nil _ _) none 0 (Nat.le_refl 0) (fun W _ => Cl.nil _ _) none 0 (Nat.le_refl 0) (fun W _ => Cl.nil _ _) none 0 (Nat.le_refl 0) (fun W _ => Cl.nil _ _) _ hx62) (fun _ _ => ?_)
   refine g_v rfl r_assign <| g_nil <| d_then <| c_seq <| c_region <| g_v rfl r_move <| g_v rfl (r_textN ((setAt_lenE hl41).trans rfl) Try.underlying77 Try.underlying5 Try.underlying9 rfl (hrowCl (tag := 100370) rfl)) ?_
   replace hm := bnd hm
   obtain ⟨⟨x63, x64⟩, hx65, hm⟩ := hm
   refine g_cn ⟨w0, M, _, _, φ57⟩ (fun _ h => h) Try.call43 rfl rfl (c_message_Read (strOfNums l41) _ hx65) (fun ⟨A66, c67, A69, c70, A72, c73, A75, c76⟩ ⟨hc67, hc70, hc73, hc76⟩ => ?_)
   refine g_abs (fun φ78 q78' => ?_)
   have q78 : ∀ W, φ78 W → φ57 W := fun W h => (q78' W h).1
   have f68 := fun (W : World) (h : φ78 W) => (q78' W h).2.1
   have f71 := fun (W : World) (h : φ78 W) => (q78' W h).2.2.1
   have f74 := fun (W : World) (h : φ78 W) => (q78' W h).2.2.2.1
   have f77 := fun (W : World) (h : φ78 W) => (q78' W h).2.2.2.2
   refine g_v rfl r_move <| g_v rfl (r_extract rfl rfl) <| g_v rfl (r_extract rfl rfl) ?_
   refine g_e rfl (e_alloc 100130 Try.zeroValue62) (fun g80 _ => ?_)
   refine g_storeL (tag := 100130) rfl rfl rfl rfl Try.sizeOf62 rfl rfl <| g_v rfl r_assign <| g_nil <| d_then ?_
   refine c_flat [(2, .pointer (some ⟨g1, 0, none⟩)), (5, .bool x2), (10, .int .i64 x43), (12, .bool x61), (13, .pointer (some ⟨g80, 0, none⟩)), (14, .int .i64 x64)] ⟨rfl, rfl, rfl, rfl, rfl, rfl, trivial⟩ (fun u => ?_)
   refine c_sta ⟨w0, M, (100130, g80, .cells #[.int .u16 x63.fID, .bool x63.fResponse, .bool x63.fAuthoritative, .bool x63.fTruncated, .bool x63.fDesired, .bool x63.fAvailable, .int .i64 x63.fOpcode, .int .i64 x63.fCode, .slice A66 x63.fQuestions.length c67, .slice A69 x63.fAnswers.length c70, .slice A72 x63.fAuthorities.length c73, .slice A75 x63.fExtras.length c76] 62 (0, 0)) :: (100110, g60, .cells #[.int .u16 x4.fID, .bool x4.fResponse, .bool x4.fAuthoritative, .bool x4.fTruncated, .bool x4.fDesired, .bool x4.fAvailable, .int .i64 x4.fOpcode, .int .i64 x4.fCode, .slice none 0 0, .slice none 0 0, .slice none 0 0, .slice none 0 0] 62 (0, 0)) :: (100090, g59, .cells #[.int .u16 x42.fID, .bool x42.fResponse, .bool x42.fAuthoritative, .bool x42.fTruncated, .bool x42.fDesired, .bool x42.fAvailable, .int .i64 x42.fOpcode, .int .i64 x42.fCode, .slice A45 x42.fQuestions.length c46, .slice A48 x42.fAnswers.length c49, .slice A51 x42.fAuthorities.length c52, .slice A54 x42.fExtras.length c55] 62 (0, 0)) :: (100370, g30, rowO l41 T32 5) :: (100020, g1, .cells #[.int .u16 x4.fID, .bool x4.fResponse, .bool x4.fAuthoritative, .bool x4.fTruncated, .bool x4.fDesired, .bool x4.fAvailable, .int .i64 x4.fOpcode, .int .i64 x4.fCode, .slice A6 x4.fQuestions.length c7, .slice A9 x4.fAnswers.length c10, .slice A12 x4.fAuthorities.length c13, .slice A15 x4.fExtras.length c16] 62 (0, 0)) :: H, R, φ78⟩ (fun _ h => h) <| c_seq <| c_region <| g_v rfl (r_loadA (tag := 100130) rfl rfl Try.isAgg62 Try.sizeOf62 rfl rfl) <| g_v rfl (r_loadA (tag := 100020) rfl rfl Try.isAgg62 Try.sizeOf62 rfl rfl) ?_
   replace hm := bnd hm
   obtain ⟨x81, hx82, hm⟩ := hm
   refine g_cn ⟨w0, M, _, _, φ78⟩ (fun _ h => h) Try.call47 rfl rfl (c_ref06_Same x63 A66 c67 hc67 (fun W hS => f68 W hS.now) A69 c70 hc70 (fun W hS => f71 W hS.now) A72 c73 hc73 (fun W hS => f74 W hS.now) A75 c76 hc76 (fun W hS => f77 W hS.now) x4 A6 c7 hc7 (fun W hS => f8 W (q57 _ (q78 _ hS.now))) A9 c10 hc10 (fun W hS => f11 W (q57 _ (q78 _ hS.now))) A12 c13 hc13 (fun W hS => f14 W (q57 _ (q78 _ hS.now))) A15 c16 hc16 (fun W hS => f17 W (q57 _ (q78 _ hS.now))) _ hx82) (fun _ _ => ?_)
   refine g_v rfl r_assign <| g_nil <| d_then <| c_seq <| c_region <| g_v rfl r_move <| g_v rfl r_move ?_
   refine g_if rfl rfl rfl rfl rfl (fun h83 => ?_) (fun h83 => ?_)
   ·
    replace hm := ite_t hm h83
    refine g_v rfl r_move <| g_do rfl rfl rfl rfl rfl h83 <| g_v rfl (r_eql rfl rfl) <| g_v rfl (r_pick1 rfl h83) <| g_v rfl r_move ?_
    refine g_if rfl rfl rfl rfl rfl (fun h84 => ?_) (fun h84 => ?_)
    ·
     replace hm := ite_t hm (of_decide_eq_true h84)
     refine g_v rfl r_move <| g_v rfl (r_pick1 rfl h84) <| g_v rfl r_move ?_
     refine g_if rfl rfl rfl rfl rfl (fun h85 => ?_) (fun h85 => ?_)
     ·
      replace hm := ite_t hm h85
      refine g_v rfl r_move <| g_do rfl rfl rfl rfl rfl h85 <| g_v rfl (r_eql rfl rfl) <| g_v rfl (r_pick1 rfl h85) <| g_v rfl r_move ?_
      refine g_if rfl rfl rfl rfl rfl (fun h86 => ?_) (fun h86 => ?_)
      ·
       replace hm := ite_t hm (of_decide_eq_true h86)
       refine g_v rfl r_move <| g_v rfl (r_pick1 rfl h86) <| g_v rfl r_assign <| g_nil <| d_then ?_
       refine c_flat [(4, .bool x81)] ⟨rfl, trivial⟩ (fun u => ?_)
       refine c_ret ?_
       replace hm := Option.some.inj hm
       subst hm
       refine d_retC () Try.results14 ?_ trivial (fun W h => ok_pre (H1 := [_, _, _, _, _]) (R1 := []) h (fun W hφ => (q18 _ (q57 _ (q78 _ hφ))))) (.inr rfl)
       refine res_tmp <| res_nil ?_
       exact rfl
      ·
       replace hm := ite_f hm (of_decide_eq_false h86)
       refine g_v rfl (r_pick0 rfl h86) <| g_v rfl r_assign <| g_nil <| d_then ?_
       refine c_flat [(4, .bool false)] ⟨rfl, trivial⟩ (fun u => ?_)
       refine c_ret ?_
       replace hm := Option.some.inj hm
       subst hm
       refine d_retC () Try.results14 ?_ trivial (fun W h => ok_pre (H1 := [_, _, _, _, _]) (R1 := []) h (fun W hφ => (q18 _ (q57 _ (q78 _ hφ))))) (.inr rfl)
       refine res_tmp <| res_nil ?_
       exact rfl
     ·
      replace hm := ite_f hm (bool_nt h85)
      refine g_no rfl rfl rfl rfl rfl h85 <| g_v rfl (r_pick0 rfl h85) <| g_v rfl r_move <| g_no rfl rfl rfl rfl rfl rfl <| g_v rfl (r_pick0 rfl rfl) <| g_v rfl r_assign <| g_nil <| d_then ?_
      refine c_flat [(4, .bool false)] ⟨rfl, trivial⟩ (fun u => ?_)
      refine c_ret ?_
      replace hm := Option.some.inj hm
      subst hm
      refine d_retC () Try.results14 ?_ trivial (fun W h => ok_pre (H1 := [_, _, _, _, _]) (R1 := []) h (fun W hφ => (q18 _ (q57 _ (q78 _ hφ))))) (.inr rfl)
      refine res_tmp <| res_nil ?_
      exact rfl
    ·
     replace hm := ite_f hm (of_decide_eq_false h84)
     refine g_v rfl (r_pick0 rfl h84) <| g_v rfl r_move <| g_no rfl rfl rfl rfl rfl rfl <| g_no rfl rfl rfl rfl rfl rfl <| g_v rfl (r_pick0 rfl rfl) <| g_v rfl r_move <| g_no rfl rfl rfl rfl rfl rfl <| g_v rfl (r_pick0 rfl rfl) <| g_v rfl r_assign <| g_nil ?_
     refine d_then ?_
     refine c_flat [(4, .bool false)] ⟨rfl, trivial⟩ (fun u => ?_)
     refine c_ret ?_
     replace hm := Option.some.inj hm
     subst hm
     refine d_retC () Try.results14 ?_ trivial (fun W h => ok_pre (H1 := [_, _, _, _, _]) (R1 := []) h (fun W hφ => (q18 _ (q57 _ (q78 _ hφ))))) (.inr rfl)
     refine res_tmp <| res_nil ?_
     exact rfl
   ·
    replace hm := ite_f hm (bool_nt h83)
    refine g_no rfl rfl rfl rfl rfl h83 <| g_v rfl (r_pick0 rfl h83) <| g_v rfl r_move <| g_no rfl rfl rfl rfl rfl rfl <| g_v rfl (r_pick0 rfl rfl) <| g_v rfl r_move <| g_no rfl rfl rfl rfl rfl rfl <| g_no rfl rfl rfl rfl rfl rfl <| g_v rfl (r_pick0 rfl rfl) <| g_v rfl r_move ?_
    refine g_no rfl rfl rfl rfl rfl rfl <| g_v rfl (r_pick0 rfl rfl) <| g_v rfl r_assign <| g_nil <| d_then ?_
    refine c_flat [(4, .bool false)] ⟨rfl, trivial⟩ (fun u => ?_)
    refine c_ret ?_
    replace hm := Option.some.inj hm
    subst hm
    refine d_retC () Try.results14 ?_ trivial (fun W h => ok_pre (H1 := [_, _, _, _, _]) (R1 := []) h (fun W hφ => (q18 _ (q57 _ (q78 _ hφ))))) (.inr rfl)
    refine res_tmp <| res_nil ?_
    exact rfl
 ·
  replace hm := ite_t hm (of_decide_eq_true h23)
  refine g_no rfl rfl rfl rfl rfl h23 <| g_no rfl rfl rfl rfl rfl h23 <| g_v rfl (r_pick1 rfl h23) <| g_nil <| d_then <| c_cond1 rfl rfl <| c_seq <| c_region <| g_v rfl r_move <| g_v rfl r_move ?_
  refine g_if rfl rfl rfl rfl rfl (fun h87 => ?_) (fun h87 => ?_)
  ·
   replace hm := ite_t hm h87
   refine g_v rfl r_move <| g_do rfl rfl rfl rfl rfl h87 <| g_v rfl (r_neq rfl rfl) <| g_v rfl (r_pick1 rfl h87) <| g_v rfl r_assign <| g_nil <| d_then ?_
   refine c_flat [(4, .bool (decide (x20 ≠ 0)))] ⟨rfl, trivial⟩ (fun u => ?_)
   refine c_ret <| d_ret_then ?_
   replace hm := Option.some.inj hm
   subst hm
   refine d_retC () Try.results14 ?_ trivial (fun W h => ok_pre (H1 := [_]) (R1 := []) h (fun W hφ => (q18 _ hφ))) (.inr rfl)
   refine res_tmp <| res_nil ?_
   exact rfl
  ·
   replace hm := ite_f hm (bool_nt h87)
   refine g_no rfl rfl rfl rfl rfl h87 <| g_v rfl (r_pick0 rfl h87) <| g_v rfl r_assign <| g_nil <| d_then <| c_ret <| d_ret_then ?_
   replace hm := Option.some.inj hm
   subst hm
   refine d_retC () Try.results14 ?_ trivial (fun W h => ok_pre (H1 := [_]) (R1 := []) h (fun W hφ => (q18 _ hφ))) (.inr rfl)
   refine res_tmp <| res_nil ?_
   exact rfl
end Go.Proofs.Ytpdhdpefdgndeaa
