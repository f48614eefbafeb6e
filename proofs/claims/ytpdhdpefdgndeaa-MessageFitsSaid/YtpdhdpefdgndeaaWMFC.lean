import Derived.Test.YtpdhdpefdgndeaaWMFB
set_option maxRecDepth 100000
set_option maxHeartbeats 4000000
set_option linter.unusedVariables false
set_option linter.unusedSimpArgs false
namespace Go.Proofs.Ytpdhdpefdgndeaa
open Go.RowKit Go.Proofs.YtpdhdpefdgndeaaW.PrintLast
noncomputable def m_law06_awake  : Option Bool :=
  (m_message_Query 7 (⟨(⟨#[1, 97, 0]⟩ : ByteArray), 1, 1⟩ : GQuestion)).bind fun x2 =>
  (m_message_Bytes x2).bind fun (z20 : ByteArray × Int) =>
  (mkL 1 12 0).bind fun l21 =>
  (m_message_Read (strOfNums l21)).bind fun (z39 : GMessage × Int) =>
  (mkL 1 11 0).bind fun l41 =>
  (m_message_Read (strOfNums l41)).bind fun (z59 : GMessage × Int) =>
  (mkL 1 13 0).bind fun l61 =>
  (m_message_Read (strOfNums l61)).bind fun (z79 : GMessage × Int) =>
  (m_message_Query 7 (⟨(⟨#[1, 97, 0]⟩ : ByteArray), 1, 1⟩ : GQuestion)).bind fun x81 =>
  (m_message_Reply x81 3).bind fun x96 =>
  if z20.1 = (⟨#[0, 7, 0, 0, 0, 1, 0, 0, 0, 0, 0, 0, 1, 97, 0, 0, 1, 0, 1]⟩ : ByteArray) then
    if z20.2 = 0 then
      if z39.2 = 0 then
        if z59.2 = 10 then
          if z79.2 = 10 then
            if x96.fResponse = true then
              if x96.fCode = 3 then
                (m_message_Query 7 (⟨(⟨#[1, 97, 0]⟩ : ByteArray), 1, 1⟩ : GQuestion)).bind fun x167 =>
                (m_message_Matches x167 x96).bind fun x182 =>
                some x182
              else
                some false
            else
              some false
          else
            some false
        else
          some false
      else
        some false
    else
      some false
  else
    some false
theorem c_law06_awake {w0 : World} {M : Nat → Prop} {H : List (Nat × Nat × Obj)} {R : List (Nat × Row)} {φ : World → Prop}  (r : Bool) (hm : m_law06_awake = some r) :
    Cn Try.prog 38 #[] ⟨w0, M, H, R, φ⟩ (fun x : Unit => .bool r) (fun x => True) (fun x => ⟨w0, M, H, R, φ⟩) := by
 unfold m_law06_awake at hm
 refine cn_intro (fn := Try.f38) (N := 72) Try.func38 rfl Try.ntmps38 rfl <| c_seq <| c_region <| g_v rfl r_assign <| g_nil <| d_then <| c_seq <| c_region <| g_v rfl (r_build _ rfl (bld74_0 _ _ _)) ?_
 refine g_e rfl (e_alloc 100010 Try.zeroValue74) (fun g1 _ => ?_)
 refine g_storeL (tag := 100010) rfl rfl rfl rfl Try.sizeOf74 rfl rfl <| g_nil <| d_then <| c_seq <| c_region <| g_v rfl (r_loadA (tag := 100010) rfl rfl Try.isAgg74 Try.sizeOf74 rfl rfl) ?_
 replace hm := bnd hm
 obtain ⟨x2, hx3, hm⟩ := hm
 refine g_cn ⟨w0, M, _, _, φ⟩ (fun _ h => h) Try.call51 rfl rfl (c_message_Query 7 (⟨(⟨#[1, 97, 0]⟩ : ByteArray), 1, 1⟩ : GQuestion) _ hx3) (fun ⟨A4, c5, A7, c8, A10, c11, A13, c14⟩ ⟨hc5, hc8, hc11, hc14⟩ => ?_)
 refine g_abs (fun φ16 q16' => ?_)
 have q16 : ∀ W, φ16 W → φ W := fun W h => (q16' W h).1
 have f6 := fun (W : World) (h : φ16 W) => (q16' W h).2.1
 have f9 := fun (W : World) (h : φ16 W) => (q16' W h).2.2.1
 have f12 := fun (W : World) (h : φ16 W) => (q16' W h).2.2.2.1
 have f15 := fun (W : World) (h : φ16 W) => (q16' W h).2.2.2.2
 replace hm := bnd hm
 obtain ⟨⟨x17, x18⟩, hx19, hm⟩ := hm
 refine g_cn ⟨w0, M, _, _, φ16⟩ (fun _ h => h) Try.call40 rfl rfl (c_message_Bytes x2 A4 c5 hc5 (fun W hS => f6 W hS.now) A7 c8 hc8 (fun W h => f9 W h) A10 c11 hc11 (fun W h => f12 W h) A13 c14 hc14 (fun W h => f15 W h) _ hx19) (fun _ _ => ?_)
 refine g_v rfl r_move <| g_v rfl (r_extract rfl rfl) <| g_v rfl (r_extract rfl rfl) <| g_v rfl r_assign <| g_v rfl r_assign <| g_nil <| d_then ?_
 refine c_flat [(1, .pointer (some ⟨g1, 0, none⟩)), (2, .string x17), (3, .int .i64 x18)] ⟨rfl, rfl, rfl, trivial⟩ (fun u => ?_)
 refine c_sta ⟨w0, M, (100010, g1, .cells #[.string (⟨#[1, 97, 0]⟩ : ByteArray), .int .u16 1, .int .u16 1] 74 (0, 0)) :: H, R, φ16⟩ (fun _ h => h) <| c_seq <| c_region ?_
 replace hm := bnd hm
 obtain ⟨l21, hl21, hm⟩ := hm
 refine g_e rfl (e_make (tag := 11) (enc := (fun x : Int => [Value.int .u8 x])) Try.underlying77 inf5_5 rfl rfl rfl rfl hl21) (fun g22 _ => ?_)
 refine g_v rfl (r_textE Try.underlying77 Try.underlying5 Try.underlying9 rfl (fun W hS => rowCl (tag := 11) rfl W hS)) ?_
 replace hm := bnd hm
 obtain ⟨⟨x23, x24⟩, hx25, hm⟩ := hm
 refine g_cn ⟨w0, M, _, _, φ16⟩ (fun _ h => h) Try.call43 rfl rfl (c_message_Read (strOfNums l21) _ hx25) (fun ⟨A26, c27, A29, c30, A32, c33, A35, c36⟩ ⟨hc27, hc30, hc33, hc36⟩ => ?_)
 refine g_abs (fun φ38 q38' => ?_)
 have q38 : ∀ W, φ38 W → φ16 W := fun W h => (q38' W h).1
 have f28 := fun (W : World) (h : φ38 W) => (q38' W h).2.1
 have f31 := fun (W : World) (h : φ38 W) => (q38' W h).2.2.1
 have f34 := fun (W : World) (h : φ38 W) => (q38' W h).2.2.2.1
 have f37 := fun (W : World) (h : φ38 W) => (q38' W h).2.2.2.2
 refine g_v rfl r_move <| g_v rfl (r_extract rfl rfl) <| g_v rfl (r_extract rfl rfl) ?_
 refine g_e rfl (e_alloc 100040 Try.zeroValue62) (fun g40 _ => ?_)
 refine g_storeL (tag := 100040) rfl rfl rfl rfl Try.sizeOf62 rfl rfl <| g_v rfl r_assign <| g_nil <| d_then ?_
 refine c_flat [(1, .pointer (some ⟨g1, 0, none⟩)), (2, .string x17), (3, .int .i64 x18), (5, .int .i64 x24)] ⟨rfl, rfl, rfl, rfl, trivial⟩ (fun u => ?_)
 refine c_sta ⟨w0, M, (100040, g40, .cells #[.int .u16 x23.fID, .bool x23.fResponse, .bool x23.fAuthoritative, .bool x23.fTruncated, .bool x23.fDesired, .bool x23.fAvailable, .int .i64 x23.fOpcode, .int .i64 x23.fCode, .slice A26 x23.fQuestions.length c27, .slice A29 x23.fAnswers.length c30, .slice A32 x23.fAuthorities.length c33, .slice A35 x23.fExtras.length c36] 62 (0, 0)) :: (100010, g1, .cells #[.string (⟨#[1, 97, 0]⟩ : ByteArray), .int .u16 1, .int .u16 1] 74 (0, 0)) :: H, (11, ⟨.slice (some ⟨g22, 0, none⟩) l21.length l21.length, 5, 1, l21.length, l21.flatMap (fun x : Int => [Value.int .u8 x])⟩) :: R, φ38⟩ (fun _ h => h) <| c_seq <| c_region ?_
 replace hm := bnd hm
 obtain ⟨l41, hl41, hm⟩ := hm
 refine g_e rfl (e_make (tag := 12) (enc := (fun x : Int => [Value.int .u8 x])) Try.underlying77 inf5_5 rfl rfl rfl rfl hl41) (fun g42 _ => ?_)
 refine g_v rfl (r_textE Try.underlying77 Try.underlying5 Try.underlying9 rfl (fun W hS => rowCl (tag := 12) rfl W hS)) ?_
 replace hm := bnd hm
 obtain ⟨⟨x43, x44⟩, hx45, hm⟩ := hm
 refine g_cn ⟨w0, M, _, _, φ38⟩ (fun _ h => h) Try.call43 rfl rfl (c_message_Read (strOfNums l41) _ hx45) (fun ⟨A46, c47, A49, c50, A52, c53, A55, c56⟩ ⟨hc47, hc50, hc53, hc56⟩ => ?_)
 refine g_abs (fun φ58 q58' => ?_)
 have q58 : ∀ W, φ58 W → φ38 W := fun W h => (q58' W h).1
 have f48 := fun (W : World) (h : φ58 W) => (q58' W h).2.1
 have f51 := fun (W : World) (h : φ58 W) => (q58' W h).2.2.1
 have f54 := fun (W : World) (h : φ58 W) => (q58' W h).2.2.2.1
 have f57 := fun (W : World) (h : φ58 W) => (q58' W h).2.2.2.2
 refine g_v rfl r_move <| g_v rfl (r_extract rfl rfl) <| g_v rfl (r_extract rfl rfl) ?_
 refine g_e rfl (e_alloc 100060 Try.zeroValue62) (fun g60 _ => ?_)
 refine g_storeL (tag := 100060) rfl rfl rfl rfl Try.sizeOf62 rfl rfl <| g_v rfl r_assign <| g_nil <| d_then ?_
 refine c_flat [(1, .pointer (some ⟨g1, 0, none⟩)), (2, .string x17), (3, .int .i64 x18), (5, .int .i64 x24), (7, .int .i64 x44)] ⟨rfl, rfl, rfl, rfl, rfl, trivial⟩ (fun u => ?_)
 refine c_sta ⟨w0, M, (100060, g60, .cells #[.int .u16 x43.fID, .bool x43.fResponse, .bool x43.fAuthoritative, .bool x43.fTruncated, .bool x43.fDesired, .bool x43.fAvailable, .int .i64 x43.fOpcode, .int .i64 x43.fCode, .slice A46 x43.fQuestions.length c47, .slice A49 x43.fAnswers.length c50, .slice A52 x43.fAuthorities.length c53, .slice A55 x43.fExtras.length c56] 62 (0, 0)) :: (100040, g40, .cells #[.int .u16 x23.fID, .bool x23.fResponse, .bool x23.fAuthoritative, .bool x23.fTruncated, .bool x23.fDesired, .bool x23.fAvailable, .int .i64 x23.fOpcode, .int .i64 x23.fCode, .slice A26 x23.fQuestions.length c27, .slice A29 x23.fAnswers.length c30, .slice A32 x23.fAuthorities.length c33, .slice A35 x23.fExtras.length c36] 62 (0, 0)) :: (100010, g1, .cells #[.string (⟨#[1, 97, 0]⟩ : ByteArray), .int .u16 1, .int .u16 1] 74 (0, 0)) :: H, (12, ⟨.slice (some ⟨g42, 0, none⟩) l41.length l41.length, 5, 1, l41.length, l41.flatMap (fun x : Int => [Value.int .u8 x])⟩) :: (11, ⟨.slice (some ⟨g22, 0, none⟩) l21.length l21.length, 5, 1, l21.length, l21.flatMap (fun x : Int => [Value.int .u8 x])⟩) :: R, φ58⟩ (fun _ h => h) <| c_seq <| c_region ?_
 replace hm := bnd hm
 obtain ⟨l61, hl61, hm⟩ := hm
 refine g_e rfl (e_make (tag := 13) (enc := (fun x : Int => [Value.int .u8 x])) Try.underlying77 inf5_5 rfl rfl rfl rfl hl61) (fun g62 _ => ?_)
 refine g_v rfl (r_textE Try.underlying77 Try.underlying5 Try.underlying9 rfl (fun W hS => rowCl (tag := 13) rfl W hS)) ?_
 replace hm := bnd hm
 obtain ⟨⟨x63, x64⟩, hx65, hm⟩ := hm
 refine g_cn ⟨w0, M, _, _, φ58⟩ (fun _ h => h) Try.call43 rfl rfl (c_message_Read (strOfNums l61) _ hx65) (fun ⟨A66, c67, A69, c70, A72, c73, A75, c76⟩ ⟨hc67, hc70, hc73, hc76⟩ => ?_)
 refine g_abs (fun φ78 q78' => ?_)
 have q78 : ∀ W, φ78 W → φ58 W := fun W h => (q78' W h).1
 have f68 := fun (W : World) (h : φ78 W) => (q78' W h).2.1
 have f71 := fun (W : World) (h : φ78 W) => (q78' W h).2.2.1
 have f74 := fun (W : World) (h : φ78 W) => (q78' W h).2.2.2.1
 have f77 := fun (W : World) (h : φ78 W) => (q78' W h).2.2.2.2
 refine g_v rfl r_move <| g_v rfl (r_extract rfl rfl) <| g_v rfl (r_extract rfl rfl) ?_
 refine g_e rfl (e_alloc 100080 Try.zeroValue62) (fun g80 _ => ?_)
 refine g_storeL (tag := 100080) rfl rfl rfl rfl Try.sizeOf62 rfl rfl <| g_v rfl r_assign <| g_nil <| d_then ?_
 refine c_flat [(1, .pointer (some ⟨g1, 0, none⟩)), (2, .string x17), (3, .int .i64 x18), (5, .int .i64 x24), (7, .int .i64 x44), (9, .int .i64 x64)] ⟨rfl, rfl, rfl, rfl, rfl, rfl, trivial⟩ (fun u => ?_)
 refine c_sta ⟨w0, M, (100080, g80, .cells #[.int .u16 x63.fID, .bool x63.fResponse, .bool x63.fAuthoritative, .bool x63.fTruncated, .bool x63.fDesired, .bool x63.fAvailable, .int .i64 x63.fOpcode, .int .i64 x63.fCode, .slice A66 x63.fQuestions.length c67, .slice A69 x63.fAnswers.length c70, .slice A72 x63.fAuthorities.length c73, .slice A75 x63.fExtras.length c76] 62 (0, 0)) :: (100060, g60, .cells #[.int .u16 x43.fID, .bool x43.fResponse, .bool x43.fAuthoritative, .bool x43.fTruncated, .bool x43.fDesired, .bool x43.fAvailable, .int .i64 x43.fOpcode, .int .i64 x43.fCode, .slice A46 x43.fQuestions.length c47, .slice A49 x43.fAnswers.length c50, .slice A52 x43.fAuthorities.length c53, .slice A55 x43.fExtras.length c56] 62 (0, 0)) :: (100040, g40, .cells #[.int .u16 x23.fID, .bool x23.fResponse, .bool x23.fAuthoritative, .bool x23.fTruncated, .bool x23.fDesired, .bool x23.fAvailable, .int .i64 x23.fOpcode, .int .i64 x23.fCode, .slice A26 x23.fQuestions.length c27, .slice A29 x23.fAnswers.length c30, .slice A32 x23.fAuthorities.length c33, .slice A35 x23.fExtras.length c36] 62 (0, 0)) :: (100010, g1, .cells #[.string (⟨#[1, 97, 0]⟩ : ByteArray), .int .u16 1, .int .u16 1] 74 (0, 0)) :: H, (13, ⟨.slice (some ⟨g62, 0, none⟩) l61.length l61.length, 5, 1, l61.length, l61.flatMap (fun x : Int => [Value.int .u8 x])⟩) :: (12, ⟨.slice (some ⟨g42, 0, none⟩) l41.length l41.length, 5, 1, l41.length, l41.flatMap (fun x : Int => [Value.int .u8 x])⟩) :: (11, ⟨.slice (some ⟨g22, 0, none⟩) l21.length l21.length, 5, 1, l21.length, l21.flatMap (fun x : Int => [Value.int .u8 x])⟩) :: R, φ78⟩ (fun _ h => h) <| c_seq <| c_region <| g_v rfl (r_loadA (tag := 100010) rfl rfl Try.isAgg74 Try.sizeOf74 rfl rfl) ?_
 replace hm := bnd hm
 obtain ⟨x81, hx82, hm⟩ := hm
 refine g_cn ⟨w0, M, _, _, φ78⟩ (fun _ h => h) Try.call51 rfl rfl (c_message_Query 7 (⟨(⟨#[1, 97, 0]⟩ : ByteArray), 1, 1⟩ : GQuestion) _ hx82) (fun ⟨A83, c84, A86, c87, A89, c90, A92, c93⟩ ⟨hc84, hc87, hc90, hc93⟩ => ?_)
 refine g_abs (fun φ95 q95' => ?_)
 have q95 : ∀ W, φ95 W → φ78 W := fun W h => (q95' W h).1
 have f85 := fun (W : World) (h : φ95 W) => (q95' W h).2.1
 have f88 := fun (W : World) (h : φ95 W) => (q95' W h).2.2.1
 have f91 := fun (W : World) (h : φ95 W) => (q95' W h).2.2.2.1
 have f94 := fun (W : World) (h : φ95 W) => (q95' W h).2.2.2.2
 replace hm := bnd hm
 obtain ⟨x96, hx97, hm⟩ := hm
 refine g_cn ⟨w0, M, _, _, φ95⟩ (fun _ h => h) Try.call48 rfl rfl (c_message_Reply x81 A83 c84 hc84 (fun W hS => f85 W hS.now) A86 c87 hc87 (fun W hS => f88 W hS.now) A89 c90 hc90 (fun W hS => f91 W hS.now) A92 c93 hc93 (fun W hS => f94 W hS.now) 3 _ hx97) (fun ⟨A98, c99, A101, c102, A104, c105, A107, c108⟩ ⟨hc99, hc102, hc105, hc108⟩ => ?_)
 refine g_abs (fun φ110 q110' => ?_)
 have q110 : ∀ W, φ110 W → φ95 W := fun W h => (q110' W h).1
 have f100 := fun (W : World) (h : φ110 W) => (q110' W h).2.1
 have f103 := fun (W : World) (h : φ110 W) => (q110' W h).2.2.1
 have f106 := fun (W : World) (h : φ110 W) => (q110' W h).2.2.2.1
 have f109 := fun (W : World) (h : φ110 W) => (q110' W h).2.2.2.2
 refine g_e rfl (e_alloc 100100 Try.zeroValue62) (fun g111 _ => ?_)
 refine g_storeL (tag := 100100) rfl rfl rfl rfl Try.sizeOf62 rfl rfl <| g_nil <| d_then <| c_seq <| ga_start (n := 34) ⟨w0, M, (100100, g111, .cells #[.int .u16 x96.fID, .bool x96.fResponse, .bool x96.fAuthoritative, .bool x96.fTruncated, .bool x96.fDesired, .bool x96.fAvailable, .int .i64 x96.fOpcode, .int .i64 x96.fCode, .slice A98 x96.fQuestions.length c99, .slice A101 x96.fAnswers.length c102, .slice A104 x96.fAuthorities.length c105, .slice A107 x96.fExtras.length c108] 62 (0, 0)) :: (100080, g80, .cells #[.int .u16 x63.fID, .bool x63.fResponse, .bool x63.fAuthoritative, .bool x63.fTruncated, .bool x63.fDesired, .bool x63.fAvailable, .int .i64 x63.fOpcode, .int .i64 x63.fCode, .slice A66 x63.fQuestions.length c67, .slice A69 x63.fAnswers.length c70, .slice A72 x63.fAuthorities.length c73, .slice A75 x63.fExtras.length c76] 62 (0, 0)) :: (100060, g60, .cells #[.int .u16 x43.fID, .bool x43.fResponse, .bool x43.fAuthoritative, .bool x43.fTruncated, .bool x43.fDesired, .bool x43.fAvailable, .int .i64 x43.fOpcode, .int .i64 x43.fCode, .slice A46 x43.fQuestions.length c47, .slice A49 x43.fAnswers.length c50, .slice A52 x43.fAuthorities.length c53, .slice A55 x43.fExtras.length c56] 62 (0, 0)) :: (100040, g40, .cells #[.int .u16 x23.fID, .bool x23.fResponse, .bool x23.fAuthoritative, .bool x23.fTruncated, .bool x23.fDesired, .bool x23.fAvailable, .int .i64 x23.fOpcode, .int .i64 x23.fCode, .slice A26 x23.fQuestions.length c27, .slice A29 x23.fAnswers.length c30, .slice A32 x23.fAuthorities.length c33, .slice A35 x23.fExtras.length c36] 62 (0, 0)) :: (100010, g1, .cells #[.string (⟨#[1, 97, 0]⟩ : ByteArray), .int .u16 1, .int .u16 1] 74 (0, 0)) :: H, (13, ⟨.slice (some ⟨g62, 0, none⟩) l61.length l61.length, 5, 1, l61.length, l61.flatMap (fun x : Int => [Value.int .u8 x])⟩) :: (12, ⟨.slice (some ⟨g42, 0, none⟩) l41.length l41.length, 5, 1, l41.length, l41.flatMap (fun x : Int => [Value.int .u8 x])⟩) :: (11, ⟨.slice (some ⟨g22, 0, none⟩) l21.length l21.length, 5, 1, l21.length, l21.flatMap (fun x : Int => [Value.int .u8 x])⟩) :: R, φ110⟩ [] #[false, false, false, false, false, false, false, false, false, false, false, false, false, false, false, false, false, false, false, false, false, false, false, false, false, false, false, false, false, false, false, false, false, false] (fun W h => h.phi (fun W hφ => hφ)) mixed rfl rfl <| ga_r (i := 0) (bz 34 1) rfl (by kernel_rfl) (by decide) rfl (r_move) <| ga_r (i := 1) (bz 34 3) rfl (by kernel_rfl) (by decide) rfl (r_eqlT rfl rfl) <| ga_r (i := 2) (bz 34 7) rfl (by kernel_rfl) (by decide) rfl (r_move) ?_
 refine ga_if (t := 41) rfl (fun h160 => ?_) (fun h160 => ?_)
 ·
  replace hm := ite_t hm (of_decide_eq_true h160)
  refine ga_rG (i := 3) (bz 34 15) rfl (by kernel_rfl) (by decide) rfl rfl rfl rfl rfl h160 (r_move) <| ga_rG (i := 4) (bz 34 31) rfl (by kernel_rfl) (by decide) rfl rfl rfl rfl rfl h160 (r_eql rfl rfl) <| ga_r (i := 5) (bz 34 63) rfl (by kernel_rfl) (by decide) rfl (r_pick1 rfl h160) <| ga_r (i := 6) (bz 34 127) rfl (by kernel_rfl) (by decide) rfl (r_move) ?_
  refine ga_if (t := 45) rfl (fun h161 => ?_) (fun h161 => ?_)
  ·
   replace hm := ite_t hm (of_decide_eq_true h161)
   refine ga_rG (i := 7) (bz 34 255) rfl (by kernel_rfl) (by decide) rfl rfl rfl rfl rfl h161 (r_move) <| ga_rG (i := 8) (bz 34 511) rfl (by kernel_rfl) (by decide) rfl rfl rfl rfl rfl h161 (r_eql rfl rfl) <| ga_r (i := 9) (bz 34 1023) rfl (by kernel_rfl) (by decide) rfl (r_pick1 rfl h161) <| ga_r (i := 10) (bz 34 2047) rfl (by kernel_rfl) (by decide) rfl (r_move) ?_
   refine ga_if (t := 49) rfl (fun h162 => ?_) (fun h162 => ?_)
   ·
    replace hm := ite_t hm (of_decide_eq_true h162)
    refine ga_rG (i := 11) (bz 34 4095) rfl (by kernel_rfl) (by decide) rfl rfl rfl rfl rfl h162 (r_move) <| ga_rG (i := 12) (bz 34 8191) rfl (by kernel_rfl) (by decide) rfl rfl rfl rfl rfl h162 (r_eql rfl rfl) <| ga_r (i := 13) (bz 34 16383) rfl (by kernel_rfl) (by decide) rfl (r_pick1 rfl h162) <| ga_r (i := 14) (bz 34 32767) rfl (by kernel_rfl) (by decide) rfl (r_move) ?_
    refine ga_if (t := 53) rfl (fun h163 => ?_) (fun h163 => ?_)
    ·
     replace hm := ite_t hm (of_decide_eq_true h163)
     refine ga_rG (i := 15) (bz 34 65535) rfl (by kernel_rfl) (by decide) rfl rfl rfl rfl rfl h163 (r_move) <| ga_rG (i := 16) (bz 34 131071) rfl (by kernel_rfl) (by decide) rfl rfl rfl rfl rfl h163 (r_eql rfl rfl) <| ga_r (i := 17) (bz 34 262143) rfl (by kernel_rfl) (by decide) rfl (r_pick1 rfl h163) <| ga_r (i := 18) (bz 34 524287) rfl (by kernel_rfl) (by decide) rfl (r_move) ?_
     refine ga_if (t := 57) rfl (fun h164 => ?_) (fun h164 => ?_)
     ·
      replace hm := ite_t hm (of_decide_eq_true h164)
      refine ga_rG (i := 19) (bz 34 1048575) rfl (by kernel_rfl) (by decide) rfl rfl rfl rfl rfl h164 (r_field (n := 1) Try.underlying62 rfl Try.sizeOf4 rfl rfl) <| ga_rG (i := 20) (bz 34 2097151) rfl (by kernel_rfl) (by decide) rfl rfl rfl rfl rfl h164 (r_load (tag := 100100) rfl rfl rfl Try.isAgg4) <| ga_r (i := 21) (bz 34 4194303) rfl (by kernel_rfl) (by decide) rfl (r_pick1 rfl h164) <| ga_r (i := 22) (bz 34 8388607) rfl (by kernel_rfl) (by decide) rfl (r_move) ?_
      refine ga_if (t := 61) rfl (fun h165 => ?_) (fun h165 => ?_)
      ·
       replace hm := ite_t hm h165
       refine ga_rG (i := 23) (bz 34 16777215) rfl (by kernel_rfl) (by decide) rfl rfl rfl rfl rfl h165 (r_field (n := 7) Try.underlying62 rfl Try.sizeOf3 rfl rfl) <| ga_rG (i := 24) (bz 34 33554431) rfl (by kernel_rfl) (by decide) rfl rfl rfl rfl rfl h165 (r_load (tag := 100100) rfl rfl rfl Try.isAgg3) <| ga_rG (i := 25) (bz 34 67108863) rfl (by kernel_rfl) (by decide) rfl rfl rfl rfl rfl h165 (r_eql rfl rfl) <| ga_r (i := 26) (bz 34 134217727) rfl (by kernel_rfl) (by decide) rfl (r_pick1 rfl h165) <| ga_r (i := 27) (bz 34 268435455) rfl (by kernel_rfl) (by decide) rfl (r_move) ?_
       refine ga_if (t := 66) rfl (fun h166 => ?_) (fun h166 => ?_)
       ·
        replace hm := ite_t hm (of_decide_eq_true h166)
        refine ga_do (i := 28) (bz 34 536870911) rfl (by kernel_rfl) (fun _ _ _ _ h => h) rfl rfl rfl rfl rfl h166 (r_loadA (tag := 100010) rfl rfl Try.isAgg74 Try.sizeOf74 rfl rfl) <| ga_do (i := 30) (bz 34 1610612735) rfl (by kernel_rfl) (fun _ _ _ _ h => h) rfl rfl rfl rfl rfl h166 (r_loadA (tag := 100100) rfl rfl Try.isAgg62 Try.sizeOf62 rfl rfl) ?_
        replace hm := bnd hm
        obtain ⟨x167, hx168, hm⟩ := hm
        refine ga_cnG (first := #[]) (i := 29) (bz 34 2147483647) rfl (by kernel_rfl) (by decide) rfl rfl rfl rfl h166  ⟨w0, M, _, _, φ110⟩ (fun _ h => h) Try.call51 rfl rfl rfl (c_message_Query 7 (⟨(⟨#[1, 97, 0]⟩ : ByteArray), 1, 1⟩ : GQuestion) _ hx168) (fun ⟨A169, c170, A172, c173, A175, c176, A178, c179⟩ W ⟨hc170, hc173, hc176, hc179⟩ h => (h.phi (fun _ hh => hh.1)).phi (fun W hφ => hφ)) (fun ⟨A169, c170, A172, c173, A175, c176, A178, c179⟩ ⟨hc170, hc173, hc176, hc179⟩ => ?_)
        refine ga_abs (fun φ181 q181' => ?_)
        have q181 : ∀ W, φ181 W → φ110 W := fun W h => (q181' W h).1
        have f171 := fun (W : World) (h : φ181 W) => (q181' W h).2.1
        have f174 := fun (W : World) (h : φ181 W) => (q181' W h).2.2.1
        have f177 := fun (W : World) (h : φ181 W) => (q181' W h).2.2.2.1
        have f180 := fun (W : World) (h : φ181 W) => (q181' W h).2.2.2.2
        replace hm := bnd hm
        obtain ⟨x182, hx183, hm⟩ := hm
        refine ga_cnG (first := #[]) (i := 31) (bz 34 4294967295) rfl (by kernel_rfl) (by decide) rfl rfl rfl rfl h166  ⟨w0, M, _, _, φ181⟩ (fun _ h => h) Try.call49 rfl rfl rfl (c_message_Matches x167 A169 c170 hc170 (fun W hS => f171 W hS.now) A172 c173 hc173 (fun W hS => f174 W hS.now) A175 c176 hc176 (fun W hS => f177 W hS.now) A178 c179 hc179 (fun W hS => f180 W hS.now) x96 A98 c99 hc99 (fun W hS => f100 W (q181 _ hS.now)) A101 c102 hc102 (fun W hS => f103 W (q181 _ hS.now)) A104 c105 hc105 (fun W hS => f106 W (q181 _ hS.now)) A107 c108 hc108 (fun W hS => f109 W (q181 _ hS.now)) _ hx183) (fun _ W _ h => h.phi (fun W hφ => (q181 _ hφ))) (fun _ _ => ?_)
        refine ga_r (i := 32) (bz 34 8589934591) rfl (by kernel_rfl) (by decide) rfl (r_pick1 rfl h166) <| ga_r (i := 33) (bz 34 17179869183) rfl (by kernel_rfl) (by decide) rfl (r_assign) <| ga_done (by kernel_rfl) <| d_then ?_
        refine c_flat [(0, .bool x182)] ⟨rfl, trivial⟩ (fun u => ?_)
        refine c_sta ⟨w0, M, (100100, g111, .cells #[.int .u16 x96.fID, .bool x96.fResponse, .bool x96.fAuthoritative, .bool x96.fTruncated, .bool x96.fDesired, .bool x96.fAvailable, .int .i64 x96.fOpcode, .int .i64 x96.fCode, .slice A98 x96.fQuestions.length c99, .slice A101 x96.fAnswers.length c102, .slice A104 x96.fAuthorities.length c105, .slice A107 x96.fExtras.length c108] 62 (0, 0)) :: (100080, g80, .cells #[.int .u16 x63.fID, .bool x63.fResponse, .bool x63.fAuthoritative, .bool x63.fTruncated, .bool x63.fDesired, .bool x63.fAvailable, .int .i64 x63.fOpcode, .int .i64 x63.fCode, .slice A66 x63.fQuestions.length c67, .slice A69 x63.fAnswers.length c70, .slice A72 x63.fAuthorities.length c73, .slice A75 x63.fExtras.length c76] 62 (0, 0)) :: (100060, g60, .cells #[.int .u16 x43.fID, .bool x43.fResponse, .bool x43.fAuthoritative, .bool x43.fTruncated, .bool x43.fDesired, .bool x43.fAvailable, .int .i64 x43.fOpcode, .int .i64 x43.fCode, .slice A46 x43.fQuestions.length c47, .slice A49 x43.fAnswers.length c50, .slice A52 x43.fAuthorities.length c53, .slice A55 x43.fExtras.length c56] 62 (0, 0)) :: (100040, g40, .cells #[.int .u16 x23.fID, .bool x23.fResponse, .bool x23.fAuthoritative, .bool x23.fTruncated, .bool x23.fDesired, .bool x23.fAvailable, .int .i64 x23.fOpcode, .int .i64 x23.fCode, .slice A26 x23.fQuestions.length c27, .slice A29 x23.fAnswers.length c30, .slice A32 x23.fAuthorities.length c33, .slice A35 x23.fExtras.length c36] 62 (0, 0)) :: (100010, g1, .cells #[.string (⟨#[1, 97, 0]⟩ : ByteArray), .int .u16 1, .int .u16 1] 74 (0, 0)) :: H, (13, ⟨.slice (some ⟨g62, 0, none⟩) l61.length l61.length, 5, 1, l61.length, l61.flatMap (fun x : Int => [Value.int .u8 x])⟩) :: (12, ⟨.slice (some ⟨g42, 0, none⟩) l41.length l41.length, 5, 1, l41.length, l41.flatMap (fun x : Int => [Value.int .u8 x])⟩) :: (11, ⟨.slice (some ⟨g22, 0, none⟩) l21.length l21.length, 5, 1, l21.length, l21.flatMap (fun x : Int => [Value.int .u8 x])⟩) :: R, φ181⟩ (fun _ h => h) <| c_ret ?_
        replace hm := Option.some.inj hm
        subst hm
        refine d_retC () Try.results38 ?_ trivial (fun W h => ok_pre (H1 := [_, _, _, _, _]) (R1 := [_, _, _]) h (fun W hφ => (q16 _ (q38 _ (q58 _ (q78 _ (q95 _ (q110 _ (q181 _ hφ))))))))) (.inr rfl)
        refine res_tmp <| res_nil ?_
        exact rfl
       ·
        replace hm := ite_f hm (of_decide_eq_false h166)
        refine ga_no (i := 28) (bz 34 536870911) rfl (by kernel_rfl) (fun _ _ _ _ h => h) rfl rfl rfl rfl rfl h166 <| ga_no (i := 29) (bz 34 1073741823) rfl (by kernel_rfl) (fun _ _ _ _ h => h) rfl rfl rfl rfl rfl h166 <| ga_no (i := 30) (bz 34 2147483647) rfl (by kernel_rfl) (fun _ _ _ _ h => h) rfl rfl rfl rfl rfl h166 <| ga_no (i := 31) (bz 34 4294967295) rfl (by kernel_rfl) (fun _ _ _ _ h => h) rfl rfl rfl rfl rfl h166 <| ga_r (i := 32) (bz 34 8589934591) rfl (by kernel_rfl) (by decide) rfl (r_pick0 rfl h166) <| ga_r (i := 33) (bz 34 17179869183) rfl (by kernel_rfl) (by decide) rfl (r_assign) <| ga_done (by kernel_rfl) <| d_then ?_
        refine c_flat [(0, .bool false)] ⟨rfl, trivial⟩ (fun u => ?_)
        refine c_sta ⟨w0, M, (100100, g111, .cells #[.int .u16 x96.fID, .bool x96.fResponse, .bool x96.fAuthoritative, .bool x96.fTruncated, .bool x96.fDesired, .bool x96.fAvailable, .int .i64 x96.fOpcode, .int .i64 x96.fCode, .slice A98 x96.fQuestions.length c99, .slice A101 x96.fAnswers.length c102, .slice A104 x96.fAuthorities.length c105, .slice A107 x96.fExtras.length c108] 62 (0, 0)) :: (100080, g80, .cells #[.int .u16 x63.fID, .bool x63.fResponse, .bool x63.fAuthoritative, .bool x63.fTruncated, .bool x63.fDesired, .bool x63.fAvailable, .int .i64 x63.fOpcode, .int .i64 x63.fCode, .slice A66 x63.fQuestions.length c67, .slice A69 x63.fAnswers.length c70, .slice A72 x63.fAuthorities.length c73, .slice A75 x63.fExtras.length c76] 62 (0, 0)) :: (100060, g60, .cells #[.int .u16 x43.fID, .bool x43.fResponse, .bool x43.fAuthoritative, .bool x43.fTruncated, .bool x43.fDesired, .bool x43.fAvailable, .int .i64 x43.fOpcode, .int .i64 x43.fCode, .slice A46 x43.fQuestions.length c47, .slice A49 x43.fAnswers.length c50, .slice A52 x43.fAuthorities.length c53, .slice A55 x43.fExtras.length c56] 62 (0, 0)) :: (100040, g40, .cells #[.int .u16 x23.fID, .bool x23.fResponse, .bool x23.fAuthoritative, .bool x23.fTruncated, .bool x23.fDesired, .bool x23.fAvailable, .int .i64 x23.fOpcode, .int .i64 x23.fCode, .slice A26 x23.fQuestions.length c27, .slice A29 x23.fAnswers.length c30, .slice A32 x23.fAuthorities.length c33, .slice A35 x23.fExtras.length c36] 62 (0, 0)) :: (100010, g1, .cells #[.string (⟨#[1, 97, 0]⟩ : ByteArray), .int .u16 1, .int .u16 1] 74 (0, 0)) :: H, (13, ⟨.slice (some ⟨g62, 0, none⟩) l61.length l61.length, 5, 1, l61.length, l61.flatMap (fun x : Int => [Value.int .u8 x])⟩) :: (12, ⟨.slice (some ⟨g42, 0, none⟩) l41.length l41.length, 5, 1, l41.length, l41.flatMap (fun x : Int => [Value.int .u8 x])⟩) :: (11, ⟨.slice (some ⟨g22, 0, none⟩) l21.length l21.length, 5, 1, l21.length, l21.flatMap (fun x : Int => [Value.int .u8 x])⟩) :: R, φ110⟩ (fun _ h => h) <| c_ret ?_
        replace hm := Option.some.inj hm
        subst hm
        refine d_retC () Try.results38 ?_ trivial (fun W h => ok_pre (H1 := [_, _, _, _, _]) (R1 := [_, _, _]) h (fun W hφ => (q16 _ (q38 _ (q58 _ (q78 _ (q95 _ (q110 _ hφ)))))))) (.inr rfl)
        refine res_tmp <| res_nil ?_
        exact rfl
      ·
       replace hm := ite_f hm (bool_nt h165)
       refine ga_no (i := 23) (bz 34 16777215) rfl (by kernel_rfl) (fun _ _ _ _ h => h) rfl rfl rfl rfl rfl h165 <| ga_no (i := 24) (bz 34 33554431) rfl (by kernel_rfl) (fun _ _ _ _ h => h) rfl rfl rfl rfl rfl h165 <| ga_no (i := 25) (bz 34 67108863) rfl (by kernel_rfl) (fun _ _ _ _ h => h) rfl rfl rfl rfl rfl h165 <| ga_r (i := 26) (bz 34 134217727) rfl (by kernel_rfl) (by decide) rfl (r_pick0 rfl h165) <| ga_r (i := 27) (bz 34 268435455) rfl (by kernel_rfl) (by decide) rfl (r_move) <| ga_no (i := 28) (bz 34 536870911) rfl (by kernel_rfl) (fun _ _ _ _ h => h) rfl rfl rfl rfl rfl rfl <| ga_no (i := 29) (bz 34 1073741823) rfl (by kernel_rfl) (fun _ _ _ _ h => h) rfl rfl rfl rfl rfl rfl <| ga_no (i := 30) (bz 34 2147483647) rfl (by kernel_rfl) (fun _ _ _ _ h => h) rfl rfl rfl rfl rfl rfl <| ga_no (i := 31) (bz 34 4294967295) rfl (by kernel_rfl) (fun _ _ _ _ h => h) rfl rfl rfl rfl rfl rfl <| ga_r (i := 32) (bz 34 8589934591) rfl (by kernel_rfl) (by decide) rfl (r_pick0 rfl rfl) ?_
       refine ga_r (i := 33) (bz 34 17179869183) rfl (by kernel_rfl) (by decide) rfl (r_assign) <| ga_done (by kernel_rfl) <| d_then ?_
       refine c_flat [(0, .bool false)] ⟨rfl, trivial⟩ (fun u => ?_)
       refine c_sta ⟨w0, M, (100100, g111, .cells #[.int .u16 x96.fID, .bool x96.fResponse, .bool x96.fAuthoritative, .bool x96.fTruncated, .bool x96.fDesired, .bool x96.fAvailable, .int .i64 x96.fOpcode, .int .i64 x96.fCode, .slice A98 x96.fQuestions.length c99, .slice A101 x96.fAnswers.length c102, .slice A104 x96.fAuthorities.length c105, .slice A107 x96.fExtras.length c108] 62 (0, 0)) :: (100080, g80, .cells #[.int .u16 x63.fID, .bool x63.fResponse, .bool x63.fAuthoritative, .bool x63.fTruncated, .bool x63.fDesired, .bool x63.fAvailable, .int .i64 x63.fOpcode, .int .i64 x63.fCode, .slice A66 x63.fQuestions.length c67, .slice A69 x63.fAnswers.length c70, .slice A72 x63.fAuthorities.length c73, .slice A75 x63.fExtras.length c76] 62 (0, 0)) :: (100060, g60, .cells #[.int .u16 x43.fID, .bool x43.fResponse, .bool x43.fAuthoritative, .bool x43.fTruncated, .bool x43.fDesired, .bool x43.fAvailable, .int .i64 x43.fOpcode, .int .i64 x43.fCode, .slice A46 x43.fQuestions.length c47, .slice A49 x43.fAnswers.length c50, .slice A52 x43.fAuthorities.length c53, .slice A55 x43.fExtras.length c56] 62 (0, 0)) :: (100040, g40, .cells #[.int .u16 x23.fID, .bool x23.fResponse, .bool x23.fAuthoritative, .bool x23.fTruncated, .bool x23.fDesired, .bool x23.fAvailable, .int .i64 x23.fOpcode, .int .i64 x23.fCode, .slice A26 x23.fQuestions.length c27, .slice A29 x23.fAnswers.length c30, .slice A32 x23.fAuthorities.length c33, .slice A35 x23.fExtras.length c36] 62 (0, 0)) :: (100010, g1, .cells #[.string (⟨#[1, 97, 0]⟩ : ByteArray), .int .u16 1, .int .u16 1] 74 (0, 0)) :: H, (13, ⟨.slice (some ⟨g62, 0, none⟩) l61.length l61.length, 5, 1, l61.length, l61.flatMap (fun x : Int => [Value.int .u8 x])⟩) :: (12, ⟨.slice (some ⟨g42, 0, none⟩) l41.length l41.length, 5, 1, l41.length, l41.flatMap (fun x : Int => [Value.int .u8 x])⟩) :: (11, ⟨.slice (some ⟨g22, 0, none⟩) l21.length l21.length, 5, 1, l21.length, l21.flatMap (fun x : Int => [Value.int .u8 x])⟩) :: R, φ110⟩ (fun _ h => h) <| c_ret ?_
       replace hm := Option.some.inj hm
       subst hm
       refine d_retC () Try.results38 ?_ trivial (fun W h => ok_pre (H1 := [_, _, _, _, _]) (R1 := [_, _, _]) h (fun W hφ => (q16 _ (q38 _ (q58 _ (q78 _ (q95 _ (q110 _ hφ)))))))) (.inr rfl)
       refine res_tmp <| res_nil ?_
       exact rfl
     ·
      replace hm := ite_f hm (of_decide_eq_false h164)
      refine ga_no (i := 19) (bz 34 1048575) rfl (by kernel_rfl) (fun _ _ _ _ h => h) rfl rfl rfl rfl rfl h164 <| ga_no (i := 20) (bz 34 2097151) rfl (by kernel_rfl) (fun _ _ _ _ h => h) rfl rfl rfl rfl rfl h164 <| ga_r (i := 21) (bz 34 4194303) rfl (by kernel_rfl) (by decide) rfl (r_pick0 rfl h164) <| ga_r (i := 22) (bz 34 8388607) rfl (by kernel_rfl) (by decide) rfl (r_move) <| ga_no (i := 23) (bz 34 16777215) rfl (by kernel_rfl) (fun _ _ _ _ h => h) rfl rfl rfl rfl rfl rfl <| ga_no (i := 24) (bz 34 33554431) rfl (by kernel_rfl) (fun _ _ _ _ h => h) rfl rfl rfl rfl rfl rfl <| ga_no (i := 25) (bz 34 67108863) rfl (by kernel_rfl) (fun _ _ _ _ h => h) rfl rfl rfl rfl rfl rfl <| ga_r (i := 26) (bz 34 134217727) rfl (by kernel_rfl) (by decide) rfl (r_pick0 rfl rfl) <| ga_r (i := 27) (bz 34 268435455) rfl (by kernel_rfl) (by decide) rfl (r_move) <| ga_no (i := 28) (bz 34 536870911) rfl (by kernel_rfl) (fun _ _ _ _ h => h) rfl rfl rfl rfl rfl rfl ?_
      refine ga_no (i := 29) (bz 34 1073741823) rfl (by kernel_rfl) (fun _ _ _ _ h => h) rfl rfl rfl rfl rfl rfl <| ga_no (i := 30) (bz 34 2147483647) rfl (by kernel_rfl) (fun _ _ _ _ h => h) rfl rfl rfl rfl rfl rfl <| ga_no (i := 31) (bz 34 4294967295) rfl (by kernel_rfl) (fun _ _ _ _ h => h) rfl rfl rfl rfl rfl rfl <| ga_r (i := 32) (bz 34 8589934591) rfl (by kernel_rfl) (by decide) rfl (r_pick0 rfl rfl) <| ga_r (i := 33) (bz 34 17179869183) rfl (by kernel_rfl) (by decide) rfl (r_assign) <| ga_done (by kernel_rfl) <| d_then ?_
      refine c_flat [(0, .bool false)] ⟨rfl, trivial⟩ (fun u => ?_)
      refine c_sta ⟨w0, M, (100100, g111, .cells #[.int .u16 x96.fID, .bool x96.fResponse, .bool x96.fAuthoritative, .bool x96.fTruncated, .bool x96.fDesired, .bool x96.fAvailable, .int .i64 x96.fOpcode, .int .i64 x96.fCode, .slice A98 x96.fQuestions.length c99, .slice A101 x96.fAnswers.length c102, .slice A104 x96.fAuthorities.length c105, .slice A107 x96.fExtras.length c108] 62 (0, 0)) :: (100080, g80, .cells #[.int .u16 x63.fID, .bool x63.fResponse, .bool x63.fAuthoritative, .bool x63.fTruncated, .bool x63.fDesired, .bool x63.fAvailable, .int .i64 x63.fOpcode, .int .i64 x63.fCode, .slice A66 x63.fQuestions.length c67, .slice A69 x63.fAnswers.length c70, .slice A72 x63.fAuthorities.length c73, .slice A75 x63.fExtras.length c76] 62 (0, 0)) :: (100060, g60, .cells #[.int .u16 x43.fID, .bool x43.fResponse, .bool x43.fAuthoritative, .bool x43.fTruncated, .bool x43.fDesired, .bool x43.fAvailable, .int .i64 x43.fOpcode, .int .i64 x43.fCode, .slice A46 x43.fQuestions.length c47, .slice A49 x43.fAnswers.length c50, .slice A52 x43.fAuthorities.length c53, .slice A55 x43.fExtras.length c56] 62 (0, 0)) :: (100040, g40, .cells #[.int .u16 x23.fID, .bool x23.fResponse, .bool x23.fAuthoritative, .bool x23.fTruncated, .bool x23.fDesired, .bool x23.fAvailable, .int .i64 x23.fOpcode, .int .i64 x23.fCode, .slice A26 x23.fQuestions.length c27, .slice A29 x23.fAnswers.length c30, .slice A32 x23.fAuthorities.length c33, .slice A35 x23.fExtras.length c36] 62 (0, 0)) :: (100010, g1, .cells #[.string (⟨#[1, 97, 0]⟩ : ByteArray), .int .u16 1, .int .u16 1] 74 (0, 0)) :: H, (13, ⟨.slice (some ⟨g62, 0, none⟩) l61.length l61.length, 5, 1, l61.length, l61.flatMap (fun x : Int => [Value.int .u8 x])⟩) :: (12, ⟨.slice (some ⟨g42, 0, none⟩) l41.length l41.length, 5, 1, l41.length, l41.flatMap (fun x : Int => [Value.int .u8 x])⟩) :: (11, ⟨.slice (some ⟨g22, 0, none⟩) l21.length l21.length, 5, 1, l21.length, l21.flatMap (fun x : Int => [Value.int .u8 x])⟩) :: R, φ110⟩ (fun _ h => h) <| c_ret ?_
      replace hm := Option.some.inj hm
      subst hm
      refine d_retC () Try.results38 ?_ trivial (fun W h => ok_pre (H1 := [_, _, _, _, _]) (R1 := [_, _, _]) h (fun W hφ => (q16 _ (q38 _ (q58 _ (q78 _ (q95 _ (q110 _ hφ)))))))) (.inr rfl)
      refine res_tmp <| res_nil ?_
      exact rfl
    ·
     replace hm := ite_f hm (of_decide_eq_false h163)
     refine ga_no (i := 15) (bz 34 65535) rfl (by kernel_rfl) (fun _ _ _ _ h => h) rfl rfl rfl rfl rfl h163 <| ga_no (i := 16) (bz 34 131071) rfl (by kernel_rfl) (fun _ _ _ _ h => h) rfl rfl rfl rfl rfl h163 <| ga_r (i := 17) (bz 34 262143) rfl (by kernel_rfl) (by decide) rfl (r_pick0 rfl h163) <| ga_r (i := 18) (bz 34 524287) rfl (by kernel_rfl) (by decide) rfl (r_move) <| ga_no (i := 19) (bz 34 1048575) rfl (by kernel_rfl) (fun _ _ _ _ h => h) rfl rfl rfl rfl rfl rfl <| ga_no (i := 20) (bz 34 2097151) rfl (by kernel_rfl) (fun _ _ _ _ h => h) rfl rfl rfl rfl rfl rfl <| ga_r (i := 21) (bz 34 4194303) rfl (by kernel_rfl) (by decide) rfl (r_pick0 rfl rfl) <| ga_r (i := 22) (bz 34 8388607) rfl (by kernel_rfl) (by decide) rfl (r_move) <| ga_no (i := 23) (bz 34 16777215) rfl (by kernel_rfl) (fun _ _ _ _ h => h) rfl rfl rfl rfl rfl rfl <| ga_no (i := 24) (bz 34 33554431) rfl (by kernel_rfl) (fun _ _ _ _ h => h) rfl rfl rfl rfl rfl rfl ?_
     refine ga_no (i := 25) (bz 34 67108863) rfl (by kernel_rfl) (fun _ _ _ _ h => h) rfl rfl rfl rfl rfl rfl <| ga_r (i := 26) (bz 34 134217727) rfl (by kernel_rfl) (by decide) rfl (r_pick0 rfl rfl) <| ga_r (i := 27) (bz 34 268435455) rfl (by kernel_rfl) (by decide) rfl (r_move) <| ga_no (i := 28) (bz 34 536870911) rfl (by kernel_rfl) (fun _ _ _ _ h => h) rfl rfl rfl rfl rfl rfl <| ga_no (i := 29) (bz 34 1073741823) rfl (by kernel_rfl) (fun _ _ _ _ h => h) rfl rfl rfl rfl rfl rfl <| ga_no (i := 30) (bz 34 2147483647) rfl (by kernel_rfl) (fun _ _ _ _ h => h) rfl rfl rfl rfl rfl rfl <| ga_no (i := 31) (bz 34 4294967295) rfl (by kernel_rfl) (fun _ _ _ _ h => h) rfl rfl rfl rfl rfl rfl <| ga_r (i := 32) (bz 34 8589934591) rfl (by kernel_rfl) (by decide) rfl (r_pick0 rfl rfl) <| ga_r (i := 33) (bz 34 17179869183) rfl (by kernel_rfl) (by decide) rfl (r_assign) <| ga_done (by kernel_rfl) ?_
     refine d_then ?_
     refine c_flat [(0, .bool false)] ⟨rfl, trivial⟩ (fun u => ?_)
     refine c_sta ⟨w0, M, (100100, g111, .cells #[.int .u16 x96.fID, .bool x96.fResponse, .bool x96.fAuthoritative, .bool x96.fTruncated, .bool x96.fDesired, .bool x96.fAvailable, .int .i64 x96.fOpcode, .int .i64 x96.fCode, .slice A98 x96.fQuestions.length c99, .slice A101 x96.fAnswers.length c102, .slice A104 x96.fAuthorities.length c105, .slice A107 x96.fExtras.length c108] 62 (0, 0)) :: (100080, g80, .cells #[.int .u16 x63.fID, .bool x63.fResponse, .bool x63.fAuthoritative, .bool x63.fTruncated, .bool x63.fDesired, .bool x63.fAvailable, .int .i64 x63.fOpcode, .int .i64 x63.fCode, .slice A66 x63.fQuestions.length c67, .slice A69 x63.fAnswers.length c70, .slice A72 x63.fAuthorities.length c73, .slice A75 x63.fExtras.length c76] 62 (0, 0)) :: (100060, g60, .cells #[.int .u16 x43.fID, .bool x43.fResponse, .bool x43.fAuthoritative, .bool x43.fTruncated, .bool x43.fDesired, .bool x43.fAvailable, .int .i64 x43.fOpcode, .int .i64 x43.fCode, .slice A46 x43.fQuestions.length c47, .slice A49 x43.fAnswers.length c50, .slice A52 x43.fAuthorities.length c53, .slice A55 x43.fExtras.length c56] 62 (0, 0)) :: (100040, g40, .cells #[.int .u16 x23.fID, .bool x23.fResponse, .bool x23.fAuthoritative, .bool x23.fTruncated, .bool x23.fDesired, .bool x23.fAvailable, .int .i64 x23.fOpcode, .int .i64 x23.fCode, .slice A26 x23.fQuestions.length c27, .slice A29 x23.fAnswers.length c30, .slice A32 x23.fAuthorities.length c33, .slice A35 x23.fExtras.length c36] 62 (0, 0)) :: (100010, g1, .cells #[.string (⟨#[1, 97, 0]⟩ : ByteArray), .int .u16 1, .int .u16 1] 74 (0, 0)) :: H, (13, ⟨.slice (some ⟨g62, 0, none⟩) l61.length l61.length, 5, 1, l61.length, l61.flatMap (fun x : Int => [Value.int .u8 x])⟩) :: (12, ⟨.slice (some ⟨g42, 0, none⟩) l41.length l41.length, 5, 1, l41.length, l41.flatMap (fun x : Int => [Value.int .u8 x])⟩) :: (11, ⟨.slice (some ⟨g22, 0, none⟩) l21.length l21.length, 5, 1, l21.length, l21.flatMap (fun x : Int => [Value.int .u8 x])⟩) :: R, φ110⟩ (fun _ h => h) <| c_ret ?_
     replace hm := Option.some.inj hm
     subst hm
     refine d_retC () Try.results38 ?_ trivial (fun W h => ok_pre (H1 := [_, _, _, _, _]) (R1 := [_, _, _]) h (fun W hφ => (q16 _ (q38 _ (q58 _ (q78 _ (q95 _ (q110 _ hφ)))))))) (.inr rfl)
     refine res_tmp <| res_nil ?_
     exact rfl
   ·
    replace hm := ite_f hm (of_decide_eq_false h162)
    refine ga_no (i := 11) (bz 34 4095) rfl (by kernel_rfl) (fun _ _ _ _ h => h) rfl rfl rfl rfl rfl h162 <| ga_no (i := 12) (bz 34 8191) rfl (by kernel_rfl) (fun _ _ _ _ h => h) rfl rfl rfl rfl rfl h162 <| ga_r (i := 13) (bz 34 16383) rfl (by kernel_rfl) (by decide) rfl (r_pick0 rfl h162) <| ga_r (i := 14) (bz 34 32767) rfl (by kernel_rfl) (by decide) rfl (r_move) <| ga_no (i := 15) (bz 34 65535) rfl (by kernel_rfl) (fun _ _ _ _ h => h) rfl rfl rfl rfl rfl rfl <| ga_no (i := 16) (bz 34 131071) rfl (by kernel_rfl) (fun _ _ _ _ h => h) rfl rfl rfl rfl rfl rfl <| ga_r (i := 17) (bz 34 262143) rfl (by kernel_rfl) (by decide) rfl (r_pick0 rfl rfl) <| ga_r (i := 18) (bz 34 524287) rfl (by kernel_rfl) (by decide) rfl (r_move) <| ga_no (i := 19) (bz 34 1048575) rfl (by kernel_rfl) (fun _ _ _ _ h => h) rfl rfl rfl rfl rfl rfl <| ga_no (i := 20) (bz 34 2097151) rfl (by kernel_rfl) (fun _ _ _ _ h => h) rfl rfl rfl rfl rfl rfl ?_
    refine ga_r (i := 21) (bz 34 4194303) rfl (by kernel_rfl) (by decide) rfl (r_pick0 rfl rfl) <| ga_r (i := 22) (bz 34 8388607) rfl (by kernel_rfl) (by decide) rfl (r_move) <| ga_no (i := 23) (bz 34 16777215) rfl (by kernel_rfl) (fun _ _ _ _ h => h) rfl rfl rfl rfl rfl rfl <| ga_no (i := 24) (bz 34 33554431) rfl (by kernel_rfl) (fun _ _ _ _ h => h) rfl rfl rfl rfl rfl rfl <| ga_no (i := 25) (bz 34 67108863) rfl (by kernel_rfl) (fun _ _ _ _ h => h) rfl rfl rfl rfl rfl rfl <| ga_r (i := 26) (bz 34 134217727) rfl (by kernel_rfl) (by decide) rfl (r_pick0 rfl rfl) <| ga_r (i := 27) (bz 34 268435455) rfl (by kernel_rfl) (by decide) rfl (r_move) <| ga_no (i := 28) (bz 34 536870911) rfl (by kernel_rfl) (fun _ _ _ _ h => h) rfl rfl rfl rfl rfl rfl <| ga_no (i := 29) (bz 34 1073741823) rfl (by kernel_rfl) (fun _ _ _ _ h => h) rfl rfl rfl rfl rfl rfl <| ga_no (i := 30) (bz 34 2147483647) rfl (by kernel_rfl) (fun _ _ _ _ h => h) rfl rfl rfl rfl rfl rfl ?_
    refine ga_no (i := 31) (bz 34 4294967295) rfl (by kernel_rfl) (fun _ _ _ _ h => h) rfl rfl rfl rfl rfl rfl <| ga_r (i := 32) (bz 34 8589934591) rfl (by kernel_rfl) (by decide) rfl (r_pick0 rfl rfl) <| ga_r (i := 33) (bz 34 17179869183) rfl (by kernel_rfl) (by decide) rfl (r_assign) <| ga_done (by kernel_rfl) <| d_then ?_
    refine c_flat [(0, .bool false)] ⟨rfl, trivial⟩ (fun u => ?_)
    refine c_sta ⟨w0, M, (100100, g111, .cells #[.int .u16 x96.fID, .bool x96.fResponse, .bool x96.fAuthoritative, .bool x96.fTruncated, .bool x96.fDesired, .bool x96.fAvailable, .int .i64 x96.fOpcode, .int .i64 x96.fCode, .slice A98 x96.fQuestions.length c99, .slice A101 x96.fAnswers.length c102, .slice A104 x96.fAuthorities.length c105, .slice A107 x96.fExtras.length c108] 62 (0, 0)) :: (100080, g80, .cells #[.int .u16 x63.fID, .bool x63.fResponse, .bool x63.fAuthoritative, .bool x63.fTruncated, .bool x63.fDesired, .bool x63.fAvailable, .int .i64 x63.fOpcode, .int .i64 x63.fCode, .slice A66 x63.fQuestions.length c67, .slice A69 x63.fAnswers.length c70, .slice A72 x63.fAuthorities.length c73, .slice A75 x63.fExtras.length c76] 62 (0, 0)) :: (100060, g60, .cells #[.int .u16 x43.fID, .bool x43.fResponse, .bool x43.fAuthoritative, .bool x43.fTruncated, .bool x43.fDesired, .bool x43.fAvailable, .int .i64 x43.fOpcode, .int .i64 x43.fCode, .slice A46 x43.fQuestions.length c47, .slice A49 x43.fAnswers.length c50, .slice A52 x43.fAuthorities.length c53, .slice A55 x43.fExtras.length c56] 62 (0, 0)) :: (100040, g40, .cells #[.int .u16 x23.fID, .bool x23.fResponse, .bool x23.fAuthoritative, .bool x23.fTruncated, .bool x23.fDesired, .bool x23.fAvailable, .int .i64 x23.fOpcode, .int .i64 x23.fCode, .slice A26 x23.fQuestions.length c27, .slice A29 x23.fAnswers.length c30, .slice A32 x23.fAuthorities.length c33, .slice A35 x23.fExtras.length c36] 62 (0, 0)) :: (100010, g1, .cells #[.string (⟨#[1, 97, 0]⟩ : ByteArray), .int .u16 1, .int .u16 1] 74 (0, 0)) :: H, (13, ⟨.slice (some ⟨g62, 0, none⟩) l61.length l61.length, 5, 1, l61.length, l61.flatMap (fun x : Int => [Value.int .u8 x])⟩) :: (12, ⟨.slice (some ⟨g42, 0, none⟩) l41.length l41.length, 5, 1, l41.length, l41.flatMap (fun x : Int => [Value.int .u8 x])⟩) :: (11, ⟨.slice (some ⟨g22, 0, none⟩) l21.length l21.length, 5, 1, l21.length, l21.flatMap (fun x : Int => [Value.int .u8 x])⟩) :: R, φ110⟩ (fun _ h => h) <| c_ret ?_
    replace hm := Option.some.inj hm
    subst hm
    refine d_retC () Try.results38 ?_ trivial (fun W h => ok_pre (H1 := [_, _, _, _, _]) (R1 := [_, _, _]) h (fun W hφ => (q16 _ (q38 _ (q58 _ (q78 _ (q95 _ (q110 _ hφ)))))))) (.inr rfl)
    refine res_tmp <| res_nil ?_
    exact rfl
  ·
   replace hm := ite_f hm (of_decide_eq_false h161)
   refine ga_no (i := 7) (bz 34 255) rfl (by kernel_rfl) (fun _ _ _ _ h => h) rfl rfl rfl rfl rfl h161 <| ga_no (i := 8) (bz 34 511) rfl (by kernel_rfl) (fun _ _ _ _ h => h) rfl rfl rfl rfl rfl h161 <| ga_r (i := 9) (bz 34 1023) rfl (by kernel_rfl) (by decide) rfl (r_pick0 rfl h161) <| ga_r (i := 10) (bz 34 2047) rfl (by kernel_rfl) (by decide) rfl (r_move) <| ga_no (i := 11) (bz 34 4095) rfl (by kernel_rfl) (fun _ _ _ _ h => h) rfl rfl rfl rfl rfl rfl <| ga_no (i := 12) (bz 34 8191) rfl (by kernel_rfl) (fun _ _ _ _ h => h) rfl rfl rfl rfl rfl rfl <| ga_r (i := 13) (bz 34 16383) rfl (by kernel_rfl) (by decide) rfl (r_pick0 rfl rfl) <| ga_r (i := 14) (bz 34 32767) rfl (by kernel_rfl) (by decide) rfl (r_move) <| ga_no (i := 15) (bz 34 65535) rfl (by kernel_rfl) (fun _ _ _ _ h => h) rfl rfl rfl rfl rfl rfl <| ga_no (i := 16) (bz 34 131071) rfl (by kernel_rfl) (fun _ _ _ _ h => h) rfl rfl rfl rfl rfl rfl ?_
   refine ga_r (i := 17) (bz 34 262143) rfl (by kernel_rfl) (by decide) rfl (r_pick0 rfl rfl) <| ga_r (i := 18) (bz 34 524287) rfl (by kernel_rfl) (by decide) rfl (r_move) <| ga_no (i := 19) (bz 34 1048575) rfl (by kernel_rfl) (fun _ _ _ _ h => h) rfl rfl rfl rfl rfl rfl <| ga_no (i := 20) (bz 34 2097151) rfl (by kernel_rfl) (fun _ _ _ _ h => h) rfl rfl rfl rfl rfl rfl <| ga_r (i := 21) (bz 34 4194303) rfl (by kernel_rfl) (by decide) rfl (r_pick0 rfl rfl) <| ga_r (i := 22) (bz 34 8388607) rfl (by kernel_rfl) (by decide) rfl (r_move) <| ga_no (i := 23) (bz 34 16777215) rfl (by kernel_rfl) (fun _ _ _ _ h => h) rfl rfl rfl rfl rfl rfl <| ga_no (i := 24) (bz 34 33554431) rfl (by kernel_rfl) (fun _ _ _ _ h => h) rfl rfl rfl rfl rfl rfl <| ga_no (i := 25) (bz 34 67108863) rfl (by kernel_rfl) (fun _ _ _ _ h => h) rfl rfl rfl rfl rfl rfl <| ga_r (i := 26) (bz 34 134217727) rfl (by kernel_rfl) (by decide) rfl (r_pick0 rfl rfl) ?_
   refine ga_r (i := 27) (bz 34 268435455) rfl (by kernel_rfl) (by decide) rfl (r_move) <| ga_no (i := 28) (bz 34 536870911) rfl (by kernel_rfl) (fun _ _ _ _ h => h) rfl rfl rfl rfl rfl rfl <| ga_no (i := 29) (bz 34 1073741823) rfl (by kernel_rfl) (fun _ _ _ _ h => h) rfl rfl rfl rfl rfl rfl <| ga_no (i := 30) (bz 34 2147483647) rfl (by kernel_rfl) (fun _ _ _ _ h => h) rfl rfl rfl rfl rfl rfl <| ga_no (i := 31) (bz 34 4294967295) rfl (by kernel_rfl) (fun _ _ _ _ h => h) rfl rfl rfl rfl rfl rfl <| ga_r (i := 32) (bz 34 8589934591) rfl (by kernel_rfl) (by decide) rfl (r_pick0 rfl rfl) <| ga_r (i := 33) (bz 34 17179869183) rfl (by kernel_rfl) (by decide) rfl (r_assign) <| ga_done (by kernel_rfl) <| d_then ?_
   refine c_flat [(0, .bool false)] ⟨rfl, trivial⟩ (fun u => ?_)
   refine c_sta ⟨w0, M, (100100, g111, .cells #[.int .u16 x96.fID, .bool x96.fResponse, .bool x96.fAuthoritative, .bool x96.fTruncated, .bool x96.fDesired, .bool x96.fAvailable, .int .i64 x96.fOpcode, .int .i64 x96.fCode, .slice A98 x96.fQuestions.length c99, .slice A101 x96.fAnswers.length c102, .slice A104 x96.fAuthorities.length c105, .slice A107 x96.fExtras.length c108] 62 (0, 0)) :: (100080, g80, .cells #[.int .u16 x63.fID, .bool x63.fResponse, .bool x63.fAuthoritative, .bool x63.fTruncated, .bool x63.fDesired, .bool x63.fAvailable, .int .i64 x63.fOpcode, .int .i64 x63.fCode, .slice A66 x63.fQuestions.length c67, .slice A69 x63.fAnswers.length c70, .slice A72 x63.fAuthorities.length c73, .slice A75 x63.fExtras.length c76] 62 (0, 0)) :: (100060, g60, .cells #[.int .u16 x43.fID, .bool x43.fResponse, .bool x43.fAuthoritative, .bool x43.fTruncated, .bool x43.fDesired, .bool x43.fAvailable, .int .i64 x43.fOpcode, .int .i64 x43.fCode, .slice A46 x43.fQuestions.length c47, .slice A49 x43.fAnswers.length c50, .slice A52 x43.fAuthorities.length c53, .slice A55 x43.fExtras.length c56] 62 (0, 0)) :: (100040, g40, .cells #[.int .u16 x23.fID, .bool x23.fResponse, .bool x23.fAuthoritative, .bool x23.fTruncated, .bool x23.fDesired, .bool x23.fAvailable, .int .i64 x23.fOpcode, .int .i64 x23.fCode, .slice A26 x23.fQuestions.length c27, .slice A29 x23.fAnswers.length c30, .slice A32 x23.fAuthorities.length c33, .slice A35 x23.fExtras.length c36] 62 (0, 0)) :: (100010, g1, .cells #[.string (⟨#[1, 97, 0]⟩ : ByteArray), .int .u16 1, .int .u16 1] 74 (0, 0)) :: H, (13, ⟨.slice (some ⟨g62, 0, none⟩) l61.length l61.length, 5, 1, l61.length, l61.flatMap (fun x : Int => [Value.int .u8 x])⟩) :: (12, ⟨.slice (some ⟨g42, 0, none⟩) l41.length l41.length, 5, 1, l41.length, l41.flatMap (fun x : Int => [Value.int .u8 x])⟩) :: (11, ⟨.slice (some ⟨g22, 0, none⟩) l21.length l21.length, 5, 1, l21.length, l21.flatMap (fun x : Int => [Value.int .u8 x])⟩) :: R, φ110⟩ (fun _ h => h) <| c_ret ?_
   replace hm := Option.some.inj hm
   subst hm
   refine d_retC () Try.results38 ?_ trivial (fun W h => ok_pre (H1 := [_, _, _, _, _]) (R1 := [_, _, _]) h (fun W hφ => (q16 _ (q38 _ (q58 _ (q78 _ (q95 _ (q110 _ hφ)))))))) (.inr rfl)
   refine res_tmp <| res_nil ?_
   exact rfl
 ·
  replace hm := ite_f hm (of_decide_eq_false h160)
  refine ga_no (i := 3) (bz 34 15) rfl (by kernel_rfl) (fun _ _ _ _ h => h) rfl rfl rfl rfl rfl h160 <| ga_no (i := 4) (bz 34 31) rfl (by kernel_rfl) (fun _ _ _ _ h => h) rfl rfl rfl rfl rfl h160 <| ga_r (i := 5) (bz 34 63) rfl (by kernel_rfl) (by decide) rfl (r_pick0 rfl h160) <| ga_r (i := 6) (bz 34 127) rfl (by kernel_rfl) (by decide) rfl (r_move) <| ga_no (i := 7) (bz 34 255) rfl (by kernel_rfl) (fun _ _ _ _ h => h) rfl rfl rfl rfl rfl rfl <| ga_no (i := 8) (bz 34 511) rfl (by kernel_rfl) (fun _ _ _ _ h => h) rfl rfl rfl rfl rfl rfl <| ga_r (i := 9) (bz 34 1023) rfl (by kernel_rfl) (by decide) rfl (r_pick0 rfl rfl) <| ga_r (i := 10) (bz 34 2047) rfl (by kernel_rfl) (by decide) rfl (r_move) <| ga_no (i := 11) (bz 34 4095) rfl (by kernel_rfl) (fun _ _ _ _ h => h) rfl rfl rfl rfl rfl rfl <| ga_no (i := 12) (bz 34 8191) rfl (by kernel_rfl) (fun _ _ _ _ h => h) rfl rfl rfl rfl rfl rfl ?_
  refine ga_r (i := 13) (bz 34 16383) rfl (by kernel_rfl) (by decide) rfl (r_pick0 rfl rfl) <| ga_r (i := 14) (bz 34 32767) rfl (by kernel_rfl) (by decide) rfl (r_move) <| ga_no (i := 15) (bz 34 65535) rfl (by kernel_rfl) (fun _ _ _ _ h => h) rfl rfl rfl rfl rfl rfl <| ga_no (i := 16) (bz 34 131071) rfl (by kernel_rfl) (fun _ _ _ _ h => h) rfl rfl rfl rfl rfl rfl <| ga_r (i := 17) (bz 34 262143) rfl (by kernel_rfl) (by decide) rfl (r_pick0 rfl rfl) <| ga_r (i := 18) (bz 34 524287) rfl (by kernel_rfl) (by decide) rfl (r_move) <| ga_no (i := 19) (bz 34 1048575) rfl (by kernel_rfl) (fun _ _ _ _ h => h) rfl rfl rfl rfl rfl rfl <| ga_no (i := 20) (bz 34 2097151) rfl (by kernel_rfl) (fun _ _ _ _ h => h) rfl rfl rfl rfl rfl rfl <| ga_r (i := 21) (bz 34 4194303) rfl (by kernel_rfl) (by decide) rfl (r_pick0 rfl rfl) <| ga_r (i := 22) (bz 34 8388607) rfl (by kernel_rfl) (by decide) rfl (r_move) ?_
  refine ga_no (i := 23) (bz 34 16777215) rfl (by kernel_rfl) (fun _ _ _ _ h => h) rfl rfl rfl rfl rfl rfl <| ga_no (i := 24) (bz 34 33554431) rfl (by kernel_rfl) (fun _ _ _ _ h => h) rfl rfl rfl rfl rfl rfl <| ga_no (i := 25) (bz 34 67108863) rfl (by kernel_rfl) (fun _ _ _ _ h => h) rfl rfl rfl rfl rfl rfl <| ga_r (i := 26) (bz 34 134217727) rfl (by kernel_rfl) (by decide) rfl (r_pick0 rfl rfl) <| ga_r (i := 27) (bz 34 268435455) rfl (by kernel_rfl) (by decide) rfl (r_move) <| ga_no (i := 28) (bz 34 536870911) rfl (by kernel_rfl) (fun _ _ _ _ h => h) rfl rfl rfl rfl rfl rfl <| ga_no (i := 29) (bz 34 1073741823) rfl (by kernel_rfl) (fun _ _ _ _ h => h) rfl rfl rfl rfl rfl rfl <| ga_no (i := 30) (bz 34 2147483647) rfl (by kernel_rfl) (fun _ _ _ _ h => h) rfl rfl rfl rfl rfl rfl <| ga_no (i := 31) (bz 34 4294967295) rfl (by kernel_rfl) (fun _ _ _ _ h => h) rfl rfl rfl rfl rfl rfl <| ga_r (i := 32) (bz 34 8589934591) rfl (by kernel_rfl) (by decide) rfl (r_pick0 rfl rfl) ?_
  refine ga_r (i := 33) (bz 34 17179869183) rfl (by kernel_rfl) (by decide) rfl (r_assign) <| ga_done (by kernel_rfl) <| d_then ?_
  refine c_flat [(0, .bool false)] ⟨rfl, trivial⟩ (fun u => ?_)
  refine c_sta ⟨w0, M, (100100, g111, .cells #[.int .u16 x96.fID, .bool x96.fResponse, .bool x96.fAuthoritative, .bool x96.fTruncated, .bool x96.fDesired, .bool x96.fAvailable, .int .i64 x96.fOpcode, .int .i64 x96.fCode, .slice A98 x96.fQuestions.length c99, .slice A101 x96.fAnswers.length c102, .slice A104 x96.fAuthorities.length c105, .slice A107 x96.fExtras.length c108] 62 (0, 0)) :: (100080, g80, .cells #[.int .u16 x63.fID, .bool x63.fResponse, .bool x63.fAuthoritative, .bool x63.fTruncated, .bool x63.fDesired, .bool x63.fAvailable, .int .i64 x63.fOpcode, .int .i64 x63.fCode, .slice A66 x63.fQuestions.length c67, .slice A69 x63.fAnswers.length c70, .slice A72 x63.fAuthorities.length c73, .slice A75 x63.fExtras.length c76] 62 (0, 0)) :: (100060, g60, .cells #[.int .u16 x43.fID, .bool x43.fResponse, .bool x43.fAuthoritative, .bool x43.fTruncated, .bool x43.fDesired, .bool x43.fAvailable, .int .i64 x43.fOpcode, .int .i64 x43.fCode, .slice A46 x43.fQuestions.length c47, .slice A49 x43.fAnswers.length c50, .slice A52 x43.fAuthorities.length c53, .slice A55 x43.fExtras.length c56] 62 (0, 0)) :: (100040, g40, .cells #[.int .u16 x23.fID, .bool x23.fResponse, .bool x23.fAuthoritative, .bool x23.fTruncated, .bool x23.fDesired, .bool x23.fAvailable, .int .i64 x23.fOpcode, .int .i64 x23.fCode, .slice A26 x23.fQuestions.length c27, .slice A29 x23.fAnswers.length c30, .slice A32 x23.fAuthorities.length c33, .slice A35 x23.fExtras.length c36] 62 (0, 0)) :: (100010, g1, .cells #[.string (⟨#[1, 97, 0]⟩ : ByteArray), .int .u16 1, .int .u16 1] 74 (0, 0)) :: H, (13, ⟨.slice (some ⟨g62, 0, none⟩) l61.length l61.length, 5, 1, l61.length, l61.flatMap (fun x : Int => [Value.int .u8 x])⟩) :: (12, ⟨.slice (some ⟨g42, 0, none⟩) l41.length l41.length, 5, 1, l41.length, l41.flatMap (fun x : Int => [Value.int .u8 x])⟩) :: (11, ⟨.slice (some ⟨g22, 0, none⟩) l21.length l21.length, 5, 1, l21.length, l21.flatMap (fun x : Int => [Value.int .u8 x])⟩) :: R, φ110⟩ (fun _ h => h) <| c_ret ?_
  replace hm := Option.some.inj hm
  subst hm
  refine d_retC () Try.results38 ?_ trivial (fun W h => ok_pre (H1 := [_, _, _, _, _]) (R1 := [_, _, _]) h (fun W hφ => (q16 _ (q38 _ (q58 _ (q78 _ (q95 _ (q110 _ hφ)))))))) (.inr rfl)
  refine res_tmp <| res_nil ?_
  exact rfl
noncomputable def m_law06_short (p0 : ByteArray) (p1 : Int) : Option ByteArray :=
  if p1 < (p0.size : Int) then
    (scutHi p0 p1).bind fun s2 =>
    some s2
  else
    some p0
theorem c_law06_short {w0 : World} {M : Nat → Prop} {H : List (Nat × Nat × Obj)} {R : List (Nat × Row)} {φ : World → Prop} (p0 : ByteArray) (p1 : Int) (r : ByteArray) (hm : m_law06_short p0 p1 = some r) :
    Cn Try.prog 42 #[.string p0, .int .i64 p1] ⟨w0, M, H, R, φ⟩ (fun x : Unit => .string r) (fun x => True) (fun x => ⟨w0, M, H, R, φ⟩) := by
 unfold m_law06_short at hm
 refine cn_intro (fn := Try.f42) (N := 13) Try.func42 rfl Try.ntmps42 rfl <| c_seq <| c_region <| g_v rfl r_assign <| g_nil <| d_then <| c_seq <| c_seq <| c_region <| g_v rfl r_move ?_
 refine g_v rfl (r_len Try.underlying9 rfl) <| g_v rfl r_move <| g_v rfl (r_gtr rfl rfl) <| g_nil <| d_then ?_
 refine c_cond rfl (fun h1 => ?_) (fun h1 => ?_)
 ·
  replace hm := ite_t hm (of_decide_eq_true h1)
  refine c_seq <| c_region <| g_v rfl r_move <| g_v rfl r_move ?_
  replace hm := bnd hm
  obtain ⟨s2, hs2, hm⟩ := hm
  refine g_v rfl (r_scutHi Try.underlying9 rfl rfl hs2) <| g_v rfl r_assign <| g_nil <| d_then ?_
  refine c_flat [(4, .string s2)] ⟨rfl, trivial⟩ (fun u => ?_)
  refine c_sta ⟨w0, M, H, R, φ⟩ (fun _ h => h) <| c_ret <| d_ret_then ?_
  replace hm := Option.some.inj hm
  subst hm
  refine d_retC () Try.results42 ?_ trivial (fun W h => ok_pre (H1 := []) (R1 := []) h (fun W hφ => hφ)) (.inr rfl)
  refine res_tmp <| res_nil ?_
  exact rfl
 ·
  replace hm := ite_f hm (of_decide_eq_false h1)
  refine c_skip <| d_then <| c_seq <| c_region <| g_v rfl r_move <| g_v rfl r_assign <| g_nil <| d_then <| c_ret ?_
  replace hm := Option.some.inj hm
  subst hm
  refine d_retC () Try.results42 ?_ trivial (fun W h => ok_pre (H1 := []) (R1 := []) h (fun W hφ => hφ)) (.inr rfl)
  refine res_tmp <| res_nil ?_
  exact rfl
noncomputable def m_law06_few_j1  (l99 : List GRR) : Option (List GRR) :=
  some l99
noncomputable def m_law06_few_s2 (p0 : List GRR) (l120 : List GRR) (i123 : Int) : Option (((List GRR) × Int) ⊕ (List GRR)) :=
  if i123 < (p0.length : Int) then
    if i123 < 30 then
      (at_ p0 i123).bind fun x146 =>
      (m_law06_short x146.fName 300).bind fun x151 =>
      (m_law06_short x146.fData 2100).bind fun x153 =>
      (app 40 l120 [(⟨x151, x146.fType, x146.fClass, x146.fTTL, x153⟩ : GRR)]).bind fun l156 =>
      some (.inl (l156, w64 (i123 + 1)))
    else
      some (.inr l120)
  else
    some (.inr l120)
noncomputable def m_law06_few (p0 : List GRR) : Option (List GRR) :=
  (loop (fun s => m_law06_few_s2 p0 s.1 s.2) (([] : List GRR), 0)).bind fun e => m_law06_few_j1 e
theorem c_law06_few {w0 : World} {M : Nat → Prop} {H : List (Nat × Nat × Obj)} {R : List (Nat × Row)} {φ : World → Prop} (p0 : List GRR) (Ap0_0 : Option Addr) (cp0_0 : Nat) (hcp0_0 : p0.length ≤ cp0_0) (fp0_0 : ∀ W, (Sta.mk w0 M H R φ).ok W → Cl W Ap0_0 (p0.flatMap GRR.enc)) (r : (List GRR)) (hm : m_law06_few p0 = some r) :
    Cn Try.prog 85 #[.slice Ap0_0 p0.length cp0_0] ⟨w0, M, H, R, φ⟩ (fun x : Option Addr × Nat => .slice x.1 r.length x.2) (fun x => r.length ≤ x.2) (fun x => ⟨w0, M, H, (2000, ⟨.slice x.1 r.length x.2, 27, 5, r.length, r.flatMap GRR.enc⟩) :: R, φ⟩) := by
 unfold m_law06_few at hm
 refine cn_intro (fn := Try.f85) (N := 33) Try.func85 rfl Try.ntmps85 rfl <| c_seq <| c_region <| g_v rfl r_assign <| g_nil <| d_then <| c_seq <| c_region <| g_v rfl r_assign <| g_nil ?_
 refine d_then <| c_seq <| c_sta _ (fun W h => nilR h 13 27 5) ?_
 refine c_cut (ι := (List GRR) × Option Addr × Nat) [3] (fun ⟨l99, A100, c101⟩ => [(3, .slice A100 l99.length c101)]) (fun ⟨l99, A100, c101⟩ => ⟨w0, M, H, (13, ⟨.slice A100 l99.length c101, 27, 5, l99.length, l99.flatMap GRR.enc⟩) :: R, φ⟩) (fun ⟨l99, A100, c101⟩ => m_law06_few_j1 l99 = some r ∧ l99.length ≤ c101) ?_ (fun ⟨l99, A100, c101⟩ u ⟨hm, hc101⟩ => ?_)
 ·
  refine c_seq <| c_region <| g_v rfl r_assign <| g_nil <| d_then <| c_block ?_
  replace hm := bnd hm
  obtain ⟨out2, hl2, hr2⟩ := hm
  obtain ⟨n143', hl2⟩ := loop_lp hl2
  refine c_loopU (ι := Nat × (List GRR) × Int × Option Addr × Nat) [0, 3, 4] (fun ⟨n143, l120, i123, A121, c122⟩ => [(3, .slice A121 l120.length c122), (4, .int .i64 i123)]) (fun ⟨n143, l120, i123, A121, c122⟩ => ⟨w0, M, H, (13, ⟨.slice A121 l120.length c122, 27, 5, l120.length, l120.flatMap GRR.enc⟩) :: R, φ⟩) (fun ⟨n143, l120, i123, A121, c122⟩ => Lp (fun s => m_law06_few_s2 p0 s.1 s.2) n143 (l120, i123) out2 ∧ l120.length ≤ c122) (fun ⟨n143, l120, i123, A121, c122⟩ => n143) (n143', ([] : List GRR), 0, none, 0) ⟨hl2, (Nat.le_refl 0)⟩ ⟨rfl, rfl, rfl, trivial⟩ (fun W h => h.phi (fun W hφ => hφ)) (fun ⟨n143, l120, i123, A121, c122⟩ u ⟨hlp, hc122⟩ => ?_)
  obtain ⟨o2, hm, hnx2⟩ := lp_step hlp
  clear hlp
  replace hm : m_law06_few_s2 p0 l120 i123 = some o2 := hm
  unfold m_law06_few_s2 at hm
  refine c_flat [(0, .slice Ap0_0 p0.length cp0_0), (3, .slice A121 l120.length c122), (4, .int .i64 i123)] ⟨rfl, rfl, rfl, trivial⟩ (fun u => ?_)
  refine c_sta ⟨w0, M, H, (13, ⟨.slice A121 l120.length c122, 27, 5, l120.length, l120.flatMap GRR.enc⟩) :: R, φ⟩ (fun _ h => h) <| c_seq <| c_seq <| c_region <| g_v rfl r_move <| g_v rfl r_move <| g_v rfl (r_lenL Try.underlying32 rfl) <| g_v rfl (r_lss rfl rfl) <| g_v rfl r_move ?_
  refine g_if rfl rfl rfl rfl rfl (fun h144 => ?_) (fun h144 => ?_)
  ·
   replace hm := ite_t hm (of_decide_eq_true h144)
   refine g_v rfl r_move <| g_do rfl rfl rfl rfl rfl h144 <| g_v rfl (r_lss rfl rfl) <| g_v rfl (r_pick1 rfl h144) <| g_nil <| d_then ?_
   refine c_cond rfl (fun h145 => ?_) (fun h145 => ?_)
   ·
    replace hm := ite_t hm (of_decide_eq_true h145)
    refine c_skip <| d_then <| c_seq <| c_block <| c_seq <| c_region <| g_v rfl r_move <| g_v rfl r_move ?_
    replace hm := bnd hm
    obtain ⟨x146, hx146, hm⟩ := hm
    refine g_know _ (fun W hS => cl_at (p := (Sta.mk w0 M H R φ).ok) (sz := 5) (fun _ => rfl) (by decide) (ok_pre (H1 := []) (R1 := [_]) hS (fun W h => h)) fp0_0 hx146) ?_
    rintro ⟨ad147, hA149, f148⟩
    refine g_v rfl (r_ix Try.underlying32 Try.sizeOf27 rfl hA149 rfl hx146) <| g_v rfl (r_ldA rfl Try.isAgg27 Try.sizeOf27 (fun W hS => (f148 W (ok_pre (H1 := []) (R1 := [_]) hS (fun W h => h))).take 5) rfl) ?_
    refine g_e rfl (e_alloc 100050 Try.zeroValue27) (fun g150 _ => ?_)
    refine g_storeL (tag := 100050) rfl rfl rfl rfl Try.sizeOf27 rfl rfl <| g_nil <| d_then ?_
    refine c_flat [(0, .slice Ap0_0 p0.length cp0_0), (3, .slice A121 l120.length c122), (4, .int .i64 i123), (5, .pointer (some ⟨g150, 0, none⟩))] ⟨rfl, rfl, rfl, rfl, trivial⟩ (fun u => ?_)
    refine c_sta ⟨w0, M, (100050, g150, .cells #[.string x146.fName, .int .u16 x146.fType, .int .u16 x146.fClass, .int .u32 x146.fTTL, .string x146.fData] 27 (0, 0)) :: H, (13, ⟨.slice A121 l120.length c122, 27, 5, l120.length, l120.flatMap GRR.enc⟩) :: R, φ⟩ (fun _ h => h) <| c_seq <| c_region <| g_v rfl (r_field (n := 0) Try.underlying27 rfl Try.sizeOf9 rfl rfl) <| g_v rfl (r_load (tag := 100050) rfl rfl rfl Try.isAgg9) ?_
    replace hm := bnd hm
    obtain ⟨x151, hx152, hm⟩ := hm
    refine g_cn ⟨w0, M, _, _, φ⟩ (fun _ h => h) Try.call42 rfl rfl (c_law06_short x146.fName 300 _ hx152) (fun _ _ => ?_)
    refine g_v rfl (r_field (n := 0) Try.underlying27 rfl Try.sizeOf9 rfl rfl) <| g_storeL (tag := 100050) rfl rfl rfl rfl Try.sizeOf9 rfl rfl <| g_nil <| d_then <| c_seq <| c_region <| g_v rfl (r_field (n := 4) Try.underlying27 rfl Try.sizeOf9 rfl rfl) <| g_v rfl (r_load (tag := 100050) rfl rfl rfl Try.isAgg9) ?_
    replace hm := bnd hm
    obtain ⟨x153, hx154, hm⟩ := hm
    refine g_cn ⟨w0, M, _, _, φ⟩ (fun _ h => h) Try.call42 rfl rfl (c_law06_short x146.fData 2100 _ hx154) (fun _ _ => ?_)
    refine g_v rfl (r_field (n := 4) Try.underlying27 rfl Try.sizeOf9 rfl rfl) <| g_storeL (tag := 100050) rfl rfl rfl rfl Try.sizeOf9 rfl rfl <| g_nil <| d_then ?_
    refine c_flat [(0, .slice Ap0_0 p0.length cp0_0), (3, .slice A121 l120.length c122), (4, .int .i64 i123), (5, .pointer (some ⟨g150, 0, none⟩))] ⟨rfl, rfl, rfl, rfl, trivial⟩ (fun u => ?_)
    refine c_sta ⟨w0, M, (100050, g150, .cells #[.string x151, .int .u16 x146.fType, .int .u16 x146.fClass, .int .u32 x146.fTTL, .string x153] 27 (0, 0)) :: H, (13, ⟨.slice A121 l120.length c122, 27, 5, l120.length, l120.flatMap GRR.enc⟩) :: R, φ⟩ (fun _ h => h) <| c_region <| g_v rfl r_move <| g_v rfl (r_loadA (tag := 100050) rfl rfl Try.isAgg27 Try.sizeOf27 rfl rfl) ?_
    refine g_e rfl (e_lit (tag := 100300) (l := [(⟨x151, x146.fType, x146.fClass, x146.fTTL, x153⟩ : GRR)]) (enc := GRR.enc) (sz := 5) rfl Try.underlying32 (lit27_22 _ _ _ _ _) rfl rfl (fun _ => rfl)) (fun g155 _ => ?_)
    replace hm := bnd hm
    obtain ⟨l156, hl156, hm⟩ := hm
    refine g_e rfl (e_appR (enc := GRR.enc) (l := l120) (l1 := [(⟨x151, x146.fType, x146.fClass, x146.fTTL, x153⟩ : GRR)]) (l2 := l156) (tag := 13) Try.underlying32 inf27_23 rfl (by decide) (by decide) (fun _ => rfl) (fun _ => rfl) rfl hc122 rfl rfl (fun W hS => rowCl (tag := 100300) rfl W hS) hl156) (fun ⟨A157, c158⟩ hc158 => ?_)
    refine g_v rfl r_assign <| g_nil <| d_normal_block <| d_then <| c_region <| g_v rfl r_move <| g_v rfl (r_add rfl rfl rfl) <| g_v rfl r_assign <| g_nil ?_
    obtain ⟨n159, hn159, hlp⟩ := nx_inl hm hnx2
    exact d_round (n159, l156, w64 (i123 + 1), A157, c158) ⟨hlp, hc158⟩ hn159 ⟨rfl, rfl, rfl, trivial⟩ (fun W h => ((h.dropR (t := 100300) rfl).dropH (t := 100050) rfl).phi (fun W hφ => hφ))
   ·
    replace hm := ite_f hm (of_decide_eq_false h145)
    refine c_exit <| d_exit_then <| d_exit_then <| d_exit_block ?_
    replace hm := nx_out (C := (fun e => m_law06_few_j1 e = some r)) hm hnx2 hr2
    exact d_round (l120, A121, c122) ⟨hm, hc122⟩ Nat.zero_lt_one ⟨rfl, trivial⟩ (fun W h => h.phi (fun W hφ => hφ))
  ·
   replace hm := ite_f hm (of_decide_eq_false h144)
   refine g_no rfl rfl rfl rfl rfl h144 <| g_v rfl (r_pick0 rfl h144) <| g_nil <| d_then <| c_cond0 rfl rfl <| c_exit <| d_exit_then <| d_exit_then <| d_exit_block ?_
   replace hm := nx_out (C := (fun e => m_law06_few_j1 e = some r)) hm hnx2 hr2
   exact d_round (l120, A121, c122) ⟨hm, hc122⟩ Nat.zero_lt_one ⟨rfl, trivial⟩ (fun W h => h.phi (fun W hφ => hφ))
 ·
  unfold m_law06_few_j1 at hm
  refine d_flat [(3, .slice A100 l99.length c101)] ⟨rfl, trivial⟩ (fun u => ?_)
  refine d_sta ⟨w0, M, H, (13, ⟨.slice A100 l99.length c101, 27, 5, l99.length, l99.flatMap GRR.enc⟩) :: R, φ⟩ (fun _ h => h) <| d_then <| c_seq <| c_region <| g_v rfl r_move <| g_v rfl r_assign <| g_nil <| d_then <| c_ret ?_
  replace hm := Option.some.inj hm
  subst hm
  refine d_sta _ (fun W h => ok_frontR (t := 13) (t' := 2000) h rfl) ?_
  refine d_retC (A100, c101) Try.results85 ?_ hc101 (fun W h => h.phi (fun W hφ => hφ)) (.inr rfl)
  refine res_tmp <| res_nil ?_
  exact rfl
noncomputable def m_law06_small_j1 (p0 : GMessage) (l91 : List GQuestion) : Option GMessage :=
  (m_law06_few p0.fAnswers).bind fun x94 =>
  (m_law06_few p0.fAuthorities).bind fun x99 =>
  (m_law06_few p0.fExtras).bind fun x104 =>
  some (⟨p0.fID, p0.fResponse, p0.fAuthoritative, p0.fTruncated, p0.fDesired, p0.fAvailable, p0.fOpcode, p0.fCode, l91, x94, x99, x104⟩ : GMessage)
noncomputable def m_law06_small_s2 (p0 : GMessage) (l133 : List GQuestion) (i136 : Int) : Option (((List GQuestion) × Int) ⊕ (List GQuestion)) :=
  if i136 < (p0.fQuestions.length : Int) then
    if i136 < 30 then
      (at_ p0.fQuestions i136).bind fun x157 =>
      (m_law06_short x157.fName 300).bind fun x162 =>
      (app 24 l133 [(⟨x162, x157.fType, x157.fClass⟩ : GQuestion)]).bind fun l165 =>
      some (.inl (l165, w64 (i136 + 1)))
    else
      some (.inr l133)
  else
    some (.inr l133)
noncomputable def m_law06_small (p0 : GMessage) : Option GMessage :=
  (loop (fun s => m_law06_small_s2 p0 s.1 s.2) (([] : List GQuestion), 0)).bind fun e => m_law06_small_j1 p0 e
theorem c_law06_small {w0 : World} {M : Nat → Prop} {H : List (Nat × Nat × Obj)} {R : List (Nat × Row)} {φ : World → Prop} (p0 : GMessage) (Ap0_0 : Option Addr) (cp0_0 : Nat) (hcp0_0 : p0.fQuestions.length ≤ cp0_0) (fp0_0 : ∀ W, (Sta.mk w0 M H R φ).ok W → Cl W Ap0_0 (p0.fQuestions.flatMap GQuestion.enc)) (Ap0_1 : Option Addr) (cp0_1 : Nat) (hcp0_1 : p0.fAnswers.length ≤ cp0_1) (fp0_1 : ∀ W, (Sta.mk w0 M H R φ).ok W → Cl W Ap0_1 (p0.fAnswers.flatMap GRR.enc)) (Ap0_2 : Option Addr) (cp0_2 : Nat) (hcp0_2 : p0.fAuthorities.length ≤ cp0_2) (fp0_2 : ∀ W, (Sta.mk w0 M H R φ).ok W → Cl W Ap0_2 (p0.fAuthorities.flatMap GRR.enc)) (Ap0_3 : Option Addr) (cp0_3 : Nat) (hcp0_3 : p0.fExtras.length ≤ cp0_3) (fp0_3 : ∀ W, (Sta.mk w0 M H R φ).ok W → Cl W Ap0_3 (p0.fExtras.flatMap GRR.enc)) (r : GMessage) (hm : m_law06_small p0 = some r) :
    Cn Try.prog 39 #[.agg #[.int .u16 p0.fID, .bool p0.fResponse, .bool p0.fAuthoritative, .bool p0.fTruncated, .bool p0.fDesired, .bool p0.fAvailable, .int .i64 p0.fOpcode, .int .i64 p0.fCode, .slice Ap0_0 p0.fQuestions.length cp0_0, .slice Ap0_1 p0.fAnswers.length cp0_1, .slice Ap0_2 p0.fAuthorities.length cp0_2, .slice Ap0_3 p0.fExtras.length cp0_3]] ⟨w0, M, H, R, φ⟩ (fun x : Option Addr × Nat × Option Addr × Nat × Option Addr × Nat × Option Addr × Nat => .agg #[.int .u16 r.fID, .bool r.fResponse, .bool r.fAuthoritative, .bool r.fTruncated, .bool r.fDesired, .bool r.fAvailable, .int .i64 r.fOpcode, .int .i64 r.fCode, .slice x.1 r.fQuestions.length x.2.1, .slice x.2.2.1 r.fAnswers.length x.2.2.2.1, .slice x.2.2.2.2.1 r.fAuthorities.length x.2.2.2.2.2.1, .slice x.2.2.2.2.2.2.1 r.fExtras.length x.2.2.2.2.2.2.2]) (fun x => r.fQuestions.length ≤ x.2.1 ∧ r.fAnswers.length ≤ x.2.2.2.1 ∧ r.fAuthorities.length ≤ x.2.2.2.2.2.1 ∧ r.fExtras.length ≤ x.2.2.2.2.2.2.2) (fun x => ⟨w0, M, H, R, fun W => φ W ∧ Cl W x.1 (r.fQuestions.flatMap GQuestion.enc) ∧ Cl W x.2.2.1 (r.fAnswers.flatMap GRR.enc) ∧ Cl W x.2.2.2.2.1 (r.fAuthorities.flatMap GRR.enc) ∧ Cl W x.2.2.2.2.2.2.1 (r.fExtras.flatMap GRR.enc)⟩) := by
 unfold m_law06_small at hm
 refine cn_intro (fn := Try.f39) (N := 45) Try.func39 rfl Try.ntmps39 rfl <| c_seq <| c_region ?_
 refine g_e rfl (e_box 100010 rfl) (fun g1 _ => ?_)
 refine g_e rfl (e_alloc 100020 Try.zeroValue62) (fun g2 _ => ?_)
 refine g_nil <| d_then <| c_seq <| c_region <| g_v rfl r_assign <| g_nil <| d_then <| c_seq <| c_sta _ (fun W h => nilR h 13 74 3) ?_
 refine c_cut (ι := (List GQuestion) × Option Addr × Nat) [1, 2, 3] (fun ⟨l91, A92, c93⟩ => [(3, .slice A92 l91.length c93)]) (fun ⟨l91, A92, c93⟩ => ⟨w0, M, (100020, g2, .cells #[.int .u16 0, .bool false, .bool false, .bool false, .bool false, .bool false, .int .i64 0, .int .i64 0, .slice none 0 0, .slice none 0 0, .slice none 0 0, .slice none 0 0] 62 (0, 0)) :: (100010, g1, .cells #[.int .u16 p0.fID, .bool p0.fResponse, .bool p0.fAuthoritative, .bool p0.fTruncated, .bool p0.fDesired, .bool p0.fAvailable, .int .i64 p0.fOpcode, .int .i64 p0.fCode, .slice Ap0_0 p0.fQuestions.length cp0_0, .slice Ap0_1 p0.fAnswers.length cp0_1, .slice Ap0_2 p0.fAuthorities.length cp0_2, .slice Ap0_3 p0.fExtras.length cp0_3] 62 (0, 0)) :: H, (13, ⟨.slice A92 l91.length c93, 74, 3, l91.length, l91.flatMap GQuestion.enc⟩) :: R, φ⟩) (fun ⟨l91, A92, c93⟩ => m_law06_small_j1 p0 l91 = some r ∧ l91.length ≤ c93) ?_ (fun ⟨l91, A92, c93⟩ u ⟨hm, hc93⟩ => ?_)
 ·
  refine c_seq <| c_region <| g_v rfl r_assign <| g_nil <| d_then <| c_block ?_
  replace hm := bnd hm
  obtain ⟨out2, hl2, hr2⟩ := hm
  obtain ⟨n154', hl2⟩ := loop_lp hl2
  refine c_loopU (ι := Nat × (List GQuestion) × Int × Option Addr × Nat) [1, 2, 3, 4] (fun ⟨n154, l133, i136, A134, c135⟩ => [(3, .slice A134 l133.length c135), (4, .int .i64 i136)]) (fun ⟨n154, l133, i136, A134, c135⟩ => ⟨w0, M, (100020, g2, .cells #[.int .u16 0, .bool false, .bool false, .bool false, .bool false, .bool false, .int .i64 0, .int .i64 0, .slice none 0 0, .slice none 0 0, .slice none 0 0, .slice none 0 0] 62 (0, 0)) :: (100010, g1, .cells #[.int .u16 p0.fID, .bool p0.fResponse, .bool p0.fAuthoritative, .bool p0.fTruncated, .bool p0.fDesired, .bool p0.fAvailable, .int .i64 p0.fOpcode, .int .i64 p0.fCode, .slice Ap0_0 p0.fQuestions.length cp0_0, .slice Ap0_1 p0.fAnswers.length cp0_1, .slice Ap0_2 p0.fAuthorities.length cp0_2, .slice Ap0_3 p0.fExtras.length cp0_3] 62 (0, 0)) :: H, (13, ⟨.slice A134 l133.length c135, 74, 3, l133.length, l133.flatMap GQuestion.enc⟩) :: R, φ⟩) (fun ⟨n154, l133, i136, A134, c135⟩ => Lp (fun s => m_law06_small_s2 p0 s.1 s.2) n154 (l133, i136) out2 ∧ l133.length ≤ c135) (fun ⟨n154, l133, i136, A134, c135⟩ => n154) (n154', ([] : List GQuestion), 0, none, 0) ⟨hl2, (Nat.le_refl 0)⟩ ⟨rfl, rfl, rfl, rfl, trivial⟩ (fun W h => h.phi (fun W hφ => hφ)) (fun ⟨n154, l133, i136, A134, c135⟩ u ⟨hlp, hc135⟩ => ?_)
  obtain ⟨o2, hm, hnx2⟩ := lp_step hlp
  clear hlp
  replace hm : m_law06_small_s2 p0 l133 i136 = some o2 := hm
  unfold m_law06_small_s2 at hm
  refine c_flat [(1, .pointer (some ⟨g1, 0, none⟩)), (2, .pointer (some ⟨g2, 0, none⟩)), (3, .slice A134 l133.length c135), (4, .int .i64 i136)] ⟨rfl, rfl, rfl, rfl, trivial⟩ (fun u => ?_)
  refine c_sta ⟨w0, M, (100020, g2, .cells #[.int .u16 0, .bool false, .bool false, .bool false, .bool false, .bool false, .int .i64 0, .int .i64 0, .slice none 0 0, .slice none 0 0, .slice none 0 0, .slice none 0 0] 62 (0, 0)) :: (100010, g1, .cells #[.int .u16 p0.fID, .bool p0.fResponse, .bool p0.fAuthoritative, .bool p0.fTruncated, .bool p0.fDesired, .bool p0.fAvailable, .int .i64 p0.fOpcode, .int .i64 p0.fCode, .slice Ap0_0 p0.fQuestions.length cp0_0, .slice Ap0_1 p0.fAnswers.length cp0_1, .slice Ap0_2 p0.fAuthorities.length cp0_2, .slice Ap0_3 p0.fExtras.length cp0_3] 62 (0, 0)) :: H, (13, ⟨.slice A134 l133.length c135, 74, 3, l133.length, l133.flatMap GQuestion.enc⟩) :: R, φ⟩ (fun _ h => h) <| c_seq <| c_seq <| c_region <| g_v rfl r_move <| g_v rfl (r_field (n := 8) Try.underlying62 rfl Try.sizeOf60 rfl rfl) <| g_v rfl (r_load (tag := 100010) rfl rfl rfl Try.isAgg60) <| g_v rfl (r_lenL Try.underlying60 rfl) <| g_v rfl (r_lss rfl rfl) <| g_v rfl r_move ?_
  refine g_if rfl rfl rfl rfl rfl (fun h155 => ?_) (fun h155 => ?_)
  ·
   replace hm := ite_t hm (of_decide_eq_true h155)
   refine g_v rfl r_move <| g_do rfl rfl rfl rfl rfl h155 <| g_v rfl (r_lss rfl rfl) <| g_v rfl (r_pick1 rfl h155) <| g_nil <| d_then ?_
   refine c_flat [(1, .pointer (some ⟨g1, 0, none⟩)), (2, .pointer (some ⟨g2, 0, none⟩)), (3, .slice A134 l133.length c135), (4, .int .i64 i136), (14, .bool (decide (i136 < 30)))] ⟨rfl, rfl, rfl, rfl, rfl, trivial⟩ (fun u => ?_)
   refine c_cond rfl (fun h156 => ?_) (fun h156 => ?_)
   ·
    replace hm := ite_t hm (of_decide_eq_true h156)
    refine c_skip <| d_then <| c_seq <| c_block <| c_seq <| c_region <| g_v rfl (r_field (n := 8) Try.underlying62 rfl Try.sizeOf60 rfl rfl) <| g_v rfl (r_load (tag := 100010) rfl rfl rfl Try.isAgg60) <| g_v rfl r_move ?_
    replace hm := bnd hm
    obtain ⟨x157, hx157, hm⟩ := hm
    refine g_know _ (fun W hS => cl_at (p := (Sta.mk w0 M H R φ).ok) (sz := 3) (fun _ => rfl) (by decide) (ok_pre (H1 := [_, _]) (R1 := [_]) hS (fun W h => h)) fp0_0 hx157) ?_
    rintro ⟨ad158, hA160, f159⟩
    refine g_v rfl (r_ix Try.underlying60 Try.sizeOf74 rfl hA160 rfl hx157) <| g_v rfl (r_ldA rfl Try.isAgg74 Try.sizeOf74 (fun W hS => (f159 W (ok_pre (H1 := [_, _]) (R1 := [_]) hS (fun W h => h))).take 3) rfl) ?_
    refine g_e rfl (e_alloc 100050 Try.zeroValue74) (fun g161 _ => ?_)
    refine g_storeL (tag := 100050) rfl rfl rfl rfl Try.sizeOf74 rfl rfl <| g_nil <| d_then <| c_seq <| c_region <| g_v rfl (r_field (n := 0) Try.underlying74 rfl Try.sizeOf9 rfl rfl) <| g_v rfl (r_load (tag := 100050) rfl rfl rfl Try.isAgg9) ?_
    replace hm := bnd hm
    obtain ⟨x162, hx163, hm⟩ := hm
    refine g_cn ⟨w0, M, _, _, φ⟩ (fun _ h => h) Try.call42 rfl rfl (c_law06_short x157.fName 300 _ hx163) (fun _ _ => ?_)
    refine g_v rfl (r_field (n := 0) Try.underlying74 rfl Try.sizeOf9 rfl rfl) <| g_storeL (tag := 100050) rfl rfl rfl rfl Try.sizeOf9 rfl rfl <| g_nil <| d_then ?_
    refine c_flat [(1, .pointer (some ⟨g1, 0, none⟩)), (2, .pointer (some ⟨g2, 0, none⟩)), (3, .slice A134 l133.length c135), (4, .int .i64 i136), (5, .pointer (some ⟨g161, 0, none⟩))] ⟨rfl, rfl, rfl, rfl, rfl, trivial⟩ (fun u => ?_)
    refine c_sta ⟨w0, M, (100050, g161, .cells #[.string x162, .int .u16 x157.fType, .int .u16 x157.fClass] 74 (0, 0)) :: (100020, g2, .cells #[.int .u16 0, .bool false, .bool false, .bool false, .bool false, .bool false, .int .i64 0, .int .i64 0, .slice none 0 0, .slice none 0 0, .slice none 0 0, .slice none 0 0] 62 (0, 0)) :: (100010, g1, .cells #[.int .u16 p0.fID, .bool p0.fResponse, .bool p0.fAuthoritative, .bool p0.fTruncated, .bool p0.fDesired, .bool p0.fAvailable, .int .i64 p0.fOpcode, .int .i64 p0.fCode, .slice Ap0_0 p0.fQuestions.length cp0_0, .slice Ap0_1 p0.fAnswers.length cp0_1, .slice Ap0_2 p0.fAuthorities.length cp0_2, .slice Ap0_3 p0.fExtras.length cp0_3] 62 (0, 0)) :: H, (13, ⟨.slice A134 l133.length c135, 74, 3, l133.length, l133.flatMap GQuestion.enc⟩) :: R, φ⟩ (fun _ h => h) <| c_region <| g_v rfl r_move <| g_v rfl (r_loadA (tag := 100050) rfl rfl Try.isAgg74 Try.sizeOf74 rfl rfl) ?_
    refine g_e rfl (e_lit (tag := 100280) (l := [(⟨x162, x157.fType, x157.fClass⟩ : GQuestion)]) (enc := GQuestion.enc) (sz := 3) rfl Try.underlying60 (lit74_1 _ _ _) rfl rfl (fun _ => rfl)) (fun g164 _ => ?_)
    replace hm := bnd hm
    obtain ⟨l165, hl165, hm⟩ := hm
    refine g_e rfl (e_appR (enc := GQuestion.enc) (l := l133) (l1 := [(⟨x162, x157.fType, x157.fClass⟩ : GQuestion)]) (l2 := l165) (tag := 13) Try.underlying60 inf74_19 rfl (by decide) (by decide) (fun _ => rfl) (fun _ => rfl) rfl hc135 rfl rfl (fun W hS => rowCl (tag := 100280) rfl W hS) hl165) (fun ⟨A166, c167⟩ hc167 => ?_)
    refine g_v rfl r_assign <| g_nil <| d_normal_block <| d_then <| c_region <| g_v rfl r_move <| g_v rfl (r_add rfl rfl rfl) <| g_v rfl r_assign <| g_nil ?_
    obtain ⟨n168, hn168, hlp⟩ := nx_inl hm hnx2
    exact d_round (n168, l165, w64 (i136 + 1), A166, c167) ⟨hlp, hc167⟩ hn168 ⟨rfl, rfl, rfl, rfl, trivial⟩ (fun W h => ((h.dropR (t := 100280) rfl).dropH (t := 100050) rfl).phi (fun W hφ => hφ))
   ·
    replace hm := ite_f hm (of_decide_eq_false h156)
    refine c_exit <| d_exit_then <| d_exit_then <| d_exit_block ?_
    replace hm := nx_out (C := (fun e => m_law06_small_j1 p0 e = some r)) hm hnx2 hr2
    exact d_round (l133, A134, c135) ⟨hm, hc135⟩ Nat.zero_lt_one ⟨rfl, rfl, rfl, trivial⟩ (fun W h => h.phi (fun W hφ => hφ))
  ·
   replace hm := ite_f hm (of_decide_eq_false h155)
   refine g_no rfl rfl rfl rfl rfl h155 <| g_v rfl (r_pick0 rfl h155) <| g_nil <| d_then <| c_cond0 rfl rfl <| c_exit <| d_exit_then <| d_exit_then <| d_exit_block ?_
   replace hm := nx_out (C := (fun e => m_law06_small_j1 p0 e = some r)) hm hnx2 hr2
   exact d_round (l133, A134, c135) ⟨hm, hc135⟩ Nat.zero_lt_one ⟨rfl, rfl, rfl, trivial⟩ (fun W h => h.phi (fun W hφ => hφ))
 ·
  unfold m_law06_small_j1 at hm
  refine d_flat [(1, .pointer (some ⟨g1, 0, none⟩)), (2, .pointer (some ⟨g2, 0, none⟩)), (3, .slice A92 l91.length c93)] ⟨rfl, rfl, rfl, trivial⟩ (fun u => ?_)
  refine d_sta ⟨w0, M, (100020, g2, .cells #[.int .u16 0, .bool false, .bool false, .bool false, .bool false, .bool false, .int .i64 0, .int .i64 0, .slice none 0 0, .slice none 0 0, .slice none 0 0, .slice none 0 0] 62 (0, 0)) :: (100010, g1, .cells #[.int .u16 p0.fID, .bool p0.fResponse, .bool p0.fAuthoritative, .bool p0.fTruncated, .bool p0.fDesired, .bool p0.fAvailable, .int .i64 p0.fOpcode, .int .i64 p0.fCode, .slice Ap0_0 p0.fQuestions.length cp0_0, .slice Ap0_1 p0.fAnswers.length cp0_1, .slice Ap0_2 p0.fAuthorities.length cp0_2, .slice Ap0_3 p0.fExtras.length cp0_3] 62 (0, 0)) :: H, (13, ⟨.slice A92 l91.length c93, 74, 3, l91.length, l91.flatMap GQuestion.enc⟩) :: R, φ⟩ (fun _ h => h) <| d_then <| c_seq <| c_region <| g_v rfl r_move <| g_v rfl (r_field (n := 8) Try.underlying62 rfl Try.sizeOf60 rfl rfl) <| g_storeL (tag := 100010) rfl rfl rfl rfl Try.sizeOf60 rfl rfl <| g_nil <| d_then <| c_seq ?_
  refine c_region <| g_v rfl (r_field (n := 9) Try.underlying62 rfl Try.sizeOf32 rfl rfl) <| g_v rfl (r_load (tag := 100010) rfl rfl rfl Try.isAgg32) ?_
  replace hm := bnd hm
  obtain ⟨x94, hx95, hm⟩ := hm
  refine g_cn ⟨w0, M, _, _, φ⟩ (fun _ h => h) Try.call85 rfl rfl (c_law06_few p0.fAnswers Ap0_1 cp0_1 hcp0_1 (fun W hS => fp0_1 W (ok_pre (H1 := [_, _]) (R1 := [_]) hS (fun W h => h))) _ hx95) (fun ⟨A96, c97⟩ hc97 => ?_)
  refine g_sta _ (fun W h => (ok_frontR (t := 2000) (t' := 100340) h rfl)) <| g_v rfl (r_field (n := 9) Try.underlying62 rfl Try.sizeOf32 rfl rfl) <| g_storeL (tag := 100010) rfl rfl rfl rfl Try.sizeOf32 rfl rfl <| g_nil <| d_then <| c_seq <| c_region <| g_v rfl (r_field (n := 10) Try.underlying62 rfl Try.sizeOf32 rfl rfl) <| g_v rfl (r_load (tag := 100010) rfl rfl rfl Try.isAgg32) ?_
  replace hm := bnd hm
  obtain ⟨x99, hx100, hm⟩ := hm
  refine g_cn ⟨w0, M, _, _, φ⟩ (fun _ h => h) Try.call85 rfl rfl (c_law06_few p0.fAuthorities Ap0_2 cp0_2 hcp0_2 (fun W hS => fp0_2 W (ok_pre (H1 := [_, _]) (R1 := [_, _]) hS (fun W h => h))) _ hx100) (fun ⟨A101, c102⟩ hc102 => ?_)
  refine g_sta _ (fun W h => (ok_frontR (t := 2000) (t' := 100380) h rfl)) <| g_v rfl (r_field (n := 10) Try.underlying62 rfl Try.sizeOf32 rfl rfl) <| g_storeL (tag := 100010) rfl rfl rfl rfl Try.sizeOf32 rfl rfl <| g_nil <| d_then ?_
  refine c_flat [(1, .pointer (some ⟨g1, 0, none⟩)), (2, .pointer (some ⟨g2, 0, none⟩))] ⟨rfl, rfl, trivial⟩ (fun u => ?_)
  refine c_sta ⟨w0, M, (100020, g2, .cells #[.int .u16 0, .bool false, .bool false, .bool false, .bool false, .bool false, .int .i64 0, .int .i64 0, .slice none 0 0, .slice none 0 0, .slice none 0 0, .slice none 0 0] 62 (0, 0)) :: (100010, g1, .cells #[.int .u16 p0.fID, .bool p0.fResponse, .bool p0.fAuthoritative, .bool p0.fTruncated, .bool p0.fDesired, .bool p0.fAvailable, .int .i64 p0.fOpcode, .int .i64 p0.fCode, .slice A92 l91.length c93, .slice A96 x94.length c97, .slice A101 x99.length c102, .slice Ap0_3 p0.fExtras.length cp0_3] 62 (0, 0)) :: H, (100380, ⟨.slice A101 x99.length c102, 27, 5, x99.length, x99.flatMap GRR.enc⟩) :: (100340, ⟨.slice A96 x94.length c97, 27, 5, x94.length, x94.flatMap GRR.enc⟩) :: (13, ⟨.slice A92 l91.length c93, 74, 3, l91.length, l91.flatMap GQuestion.enc⟩) :: R, φ⟩ (fun _ h => h) <| c_seq <| c_region <| g_v rfl (r_field (n := 11) Try.underlying62 rfl Try.sizeOf32 rfl rfl) <| g_v rfl (r_load (tag := 100010) rfl rfl rfl Try.isAgg32) ?_
  replace hm := bnd hm
  obtain ⟨x104, hx105, hm⟩ := hm
  refine g_cn ⟨w0, M, _, _, φ⟩ (fun _ h => h) Try.call85 rfl rfl (c_law06_few p0.fExtras Ap0_3 cp0_3 hcp0_3 (fun W hS => fp0_3 W (ok_pre (H1 := [_, _]) (R1 := [_, _, _]) hS (fun W h => h))) _ hx105) (fun ⟨A106, c107⟩ hc107 => ?_)
  refine g_sta _ (fun W h => (ok_frontR (t := 2000) (t' := 100420) h rfl)) <| g_v rfl (r_field (n := 11) Try.underlying62 rfl Try.sizeOf32 rfl rfl) <| g_storeL (tag := 100010) rfl rfl rfl rfl Try.sizeOf32 rfl rfl <| g_nil <| d_then <| c_seq <| c_region <| g_v rfl (r_loadA (tag := 100010) rfl rfl Try.isAgg62 Try.sizeOf62 rfl rfl) <| g_storeL (tag := 100020) rfl rfl rfl rfl Try.sizeOf62 rfl rfl <| g_nil ?_
  refine d_then <| c_ret ?_
  replace hm := Option.some.inj hm
  subst hm
  refine d_shut (tag := 13) rfl (fun φ109 q109' => ?_)
  have q109 : ∀ W, φ109 W → φ W := fun W h => (q109' W h).1
  have f110 := fun (W : World) (h : φ109 W) => (q109' W h).2
  refine d_shut (tag := 100340) rfl (fun φ111 q111' => ?_)
  have q111 : ∀ W, φ111 W → φ109 W := fun W h => (q111' W h).1
  have f112 := fun (W : World) (h : φ111 W) => (q111' W h).2
  refine d_shut (tag := 100380) rfl (fun φ113 q113' => ?_)
  have q113 : ∀ W, φ113 W → φ111 W := fun W h => (q113' W h).1
  have f114 := fun (W : World) (h : φ113 W) => (q113' W h).2
  refine d_shut (tag := 100420) rfl (fun φ115 q115' => ?_)
  have q115 : ∀ W, φ115 W → φ113 W := fun W h => (q115' W h).1
  have f116 := fun (W : World) (h : φ115 W) => (q115' W h).2
  refine d_retC (A92, c93, A96, c97, A101, c102, A106, c107) Try.results39 ?_ ⟨hc93, hc97, hc102, hc107⟩ (fun W h => ok_pre (H1 := [_, _]) (R1 := []) h (fun W hφ => ⟨(q109 _ (q111 _ (q113 _ (q115 _ hφ)))), (fun W h => f110 W (q111 _ (q113 _ (q115 _ h)))) W hφ, (fun W h => f112 W (q113 _ (q115 _ h))) W hφ, (fun W h => f114 W (q115 _ h)) W hφ, (fun W h => f116 W h) W hφ⟩)) (.inr rfl)
  refine res_agg (tag := 100020) rfl rfl Try.isAgg62 Try.sizeOf62 <| res_nil ?_
  exact rfl
noncomputable def m_message_Fit_j1  : Option (ByteArray × Int) :=
  some ((⟨#[]⟩ : ByteArray), 11)
noncomputable def m_message_Fit_j3 (p0 : GMessage) (p1 : Int) (i147 : Int) (b205 : Bool) (l206 : List GRR) (l210 : List GRR) (l214 : List GRR) : Option ((Int × Bool × (List GRR) × (List GRR) × (List GRR)) ⊕ (Unit ⊕ (ByteArray × Int))) :=
  (m_message_whole (⟨p0.fID, p0.fResponse, p0.fAuthoritative, b205, p0.fDesired, p0.fAvailable, p0.fOpcode, p0.fCode, p0.fQuestions, l206, l210, l214⟩ : GMessage)).bind fun (z222 : ByteArray × Int) =>
  if z222.2 ≠ 0 then
    some (.inr (.inr (z222.1, z222.2)))
  else
    if (z222.1.size : Int) ≤ (min p1 4096) then
      some (.inr (.inr (z222.1, z222.2)))
    else
      some (.inl (w64 (i147 + 1), b205, l206, l210, l214))
noncomputable def m_message_Fit_s2 (p0 : GMessage) (p1 : Int) (i147 : Int) (b148 : Bool) (l149 : List GRR) (l153 : List GRR) (l157 : List GRR) : Option ((Int × Bool × (List GRR) × (List GRR) × (List GRR)) ⊕ (Unit ⊕ (ByteArray × Int))) :=
  if i147 < 4 then
    if i147 = 1 then
      m_message_Fit_j3 p0 p1 i147 b148 l149 l153 ([] : List GRR)
    else
      if i147 = 2 then
        m_message_Fit_j3 p0 p1 i147 b148 l149 ([] : List GRR) l157
      else
        if i147 = 3 then
          m_message_Fit_j3 p0 p1 i147 true ([] : List GRR) l153 l157
        else
          m_message_Fit_j3 p0 p1 i147 b148 l149 l153 l157
  else
    some (.inr (.inl ()))
noncomputable def m_message_Fit (p0 : GMessage) (p1 : Int) : Option (ByteArray × Int) :=
  (loop (fun s => m_message_Fit_s2 p0 p1 s.1 s.2.1 s.2.2.1 s.2.2.2.1 s.2.2.2.2) (0, p0.fTruncated, p0.fAnswers, p0.fAuthorities, p0.fExtras)).bind fun e => Sum.elim (fun e => m_message_Fit_j1) (fun x => some x) e
theorem c_message_Fit {w0 : World} {M : Nat → Prop} {H : List (Nat × Nat × Obj)} {R : List (Nat × Row)} {φ : World → Prop} (p0 : GMessage) (Ap0_0 : Option Addr) (cp0_0 : Nat) (hcp0_0 : p0.fQuestions.length ≤ cp0_0) (fp0_0 : ∀ W, (Sta.mk w0 M H R φ).ok W → Cl W Ap0_0 (p0.fQuestions.flatMap GQuestion.enc)) (Ap0_1 : Option Addr) (cp0_1 : Nat) (hcp0_1 : p0.fAnswers.length ≤ cp0_1) (fp0_1 : ∀ W, φ W → Cl W Ap0_1 (p0.fAnswers.flatMap GRR.enc)) (Ap0_2 : Option Addr) (cp0_2 : Nat) (hcp0_2 : p0.fAuthorities.length ≤ cp0_2) (fp0_2 : ∀ W, φ W → Cl W Ap0_2 (p0.fAuthorities.flatMap GRR.enc)) (Ap0_3 : Option Addr) (cp0_3 : Nat) (hcp0_3 : p0.fExtras.length ≤ cp0_3) (fp0_3 : ∀ W, φ W → Cl W Ap0_3 (p0.fExtras.flatMap GRR.enc)) (p1 : Int) (r : ByteArray × Int) (hm : m_message_Fit p0 p1 = some r) :
    Cn Try.prog 54 #[.agg #[.int .u16 p0.fID, .bool p0.fResponse, .bool p0.fAuthoritative, .bool p0.fTruncated, .bool p0.fDesired, .bool p0.fAvailable, .int .i64 p0.fOpcode, .int .i64 p0.fCode, .slice Ap0_0 p0.fQuestions.length cp0_0, .slice Ap0_1 p0.fAnswers.length cp0_1, .slice Ap0_2 p0.fAuthorities.length cp0_2, .slice Ap0_3 p0.fExtras.length cp0_3], .int .i64 p1] ⟨w0, M, H, R, φ⟩ (fun x : Unit => .tuple #[.string r.1, .int .i64 r.2]) (fun x => True) (fun x => ⟨w0, M, H, R, φ⟩) := by
 unfold m_message_Fit at hm
 refine cn_intro (fn := Try.f54) (N := 41) Try.func54 rfl Try.ntmps54 rfl <| c_seq <| c_region ?_
 refine g_e rfl (e_box 100020 rfl) (fun g1 _ => ?_)
 refine g_v rfl r_assign <| g_v rfl r_assign <| g_nil <| d_then <| c_seq <| c_region <| g_v rfl r_move <| g_v rfl (r_min rfl rfl) <| g_v rfl r_assign <| g_nil ?_
 refine d_then <| c_seq <| c_seq <| c_region <| g_v rfl r_move <| g_nil <| d_then ?_
 refine c_cut (ι := Unit) [] (fun _ => []) (fun _ => ⟨w0, M, H, R, φ⟩) (fun _ => m_message_Fit_j1 = some r) ?_ (fun _ u hm => ?_)
 ·
  refine c_block ?_
  replace hm := bnd hm
  obtain ⟨out2, hl2, hr2⟩ := hm
  obtain ⟨n199', hl2⟩ := loop_lp hl2
  refine c_loopU (ι := Nat × Int × Bool × (List GRR) × (List GRR) × (List GRR) × Option Addr × Nat × Option Addr × Nat × Option Addr × Nat) [1, 2, 11] (fun ⟨n199, i147, b148, l149, l153, l157, A150, c151, A154, c155, A158, c159⟩ => [(11, .int .i64 i147)]) (fun ⟨n199, i147, b148, l149, l153, l157, A150, c151, A154, c155, A158, c159⟩ => ⟨w0, M, (100020, g1, .cells #[.int .u16 p0.fID, .bool p0.fResponse, .bool p0.fAuthoritative, .bool b148, .bool p0.fDesired, .bool p0.fAvailable, .int .i64 p0.fOpcode, .int .i64 p0.fCode, .slice Ap0_0 p0.fQuestions.length cp0_0, .slice A150 l149.length c151, .slice A154 l153.length c155, .slice A158 l157.length c159] 62 (0, 0)) :: H, R, fun W => φ W ∧ Cl W A150 (l149.flatMap GRR.enc) ∧ Cl W A154 (l153.flatMap GRR.enc) ∧ Cl W A158 (l157.flatMap GRR.enc)⟩) (fun ⟨n199, i147, b148, l149, l153, l157, A150, c151, A154, c155, A158, c159⟩ => Lp (fun s => m_message_Fit_s2 p0 p1 s.1 s.2.1 s.2.2.1 s.2.2.2.1 s.2.2.2.2) n199 (i147, b148, l149, l153, l157) out2 ∧ l149.length ≤ c151 ∧ l153.length ≤ c155 ∧ l157.length ≤ c159) (fun ⟨n199, i147, b148, l149, l153, l157, A150, c151, A154, c155, A158, c159⟩ => n199) (n199', 0, p0.fTruncated, p0.fAnswers, p0.fAuthorities, p0.fExtras, Ap0_1, cp0_1, Ap0_2, cp0_2, Ap0_3, cp0_3) ⟨hl2, hcp0_1, hcp0_2, hcp0_3⟩ ⟨rfl, rfl, rfl, trivial⟩ (fun W h => h.phi (fun W hφ => ⟨hφ, (fun W h => fp0_1 W h) W hφ, (fun W h => fp0_2 W h) W hφ, (fun W h => fp0_3 W h) W hφ⟩)) (fun ⟨n199, i147, b148, l149, l153, l157, A150, c151, A154, c155, A158, c159⟩ u ⟨hlp, hc151, hc155, hc159⟩ => ?_)
  obtain ⟨o2, hm, hnx2⟩ := lp_step hlp
  clear hlp
  replace hm : m_message_Fit_s2 p0 p1 i147 b148 l149 l153 l157 = some o2 := hm
  unfold m_message_Fit_s2 at hm
  refine c_abs (fun φ200 q200' => ?_)
  have q200 : ∀ W, φ200 W → φ W := fun W h => (q200' W h).1
  have f152 := fun (W : World) (h : φ200 W) => (q200' W h).2.1
  have f156 := fun (W : World) (h : φ200 W) => (q200' W h).2.2.1
  have f160 := fun (W : World) (h : φ200 W) => (q200' W h).2.2.2
  refine c_flat [(1, .int .i64 (min p1 4096)), (2, .pointer (some ⟨g1, 0, none⟩)), (11, .int .i64 i147)] ⟨rfl, rfl, rfl, trivial⟩ (fun u => ?_)
  refine c_sta ⟨w0, M, (100020, g1, .cells #[.int .u16 p0.fID, .bool p0.fResponse, .bool p0.fAuthoritative, .bool b148, .bool p0.fDesired, .bool p0.fAvailable, .int .i64 p0.fOpcode, .int .i64 p0.fCode, .slice Ap0_0 p0.fQuestions.length cp0_0, .slice A150 l149.length c151, .slice A154 l153.length c155, .slice A158 l157.length c159] 62 (0, 0)) :: H, R, φ200⟩ (fun _ h => h) <| c_seq <| c_region <| g_v rfl (r_lss rfl rfl) <| g_nil <| d_then <| c_seq ?_
  refine c_cond rfl (fun h201 => ?_) (fun h201 => ?_)
  ·
   replace hm := ite_t hm (of_decide_eq_true h201)
   refine c_skip <| d_then <| c_seq <| c_block <| c_seq <| c_region <| g_v rfl r_move <| g_v rfl r_assign <| g_nil <| d_then ?_
   refine c_seq ?_
   refine c_cut (ι := Bool × (List GRR) × (List GRR) × (List GRR) × Option Addr × Nat × Option Addr × Nat × Option Addr × Nat) [1, 2, 11] (fun ⟨b205, l206, l210, l214, A207, c208, A211, c212, A215, c216⟩ => []) (fun ⟨b205, l206, l210, l214, A207, c208, A211, c212, A215, c216⟩ => ⟨w0, M, (100020, g1, .cells #[.int .u16 p0.fID, .bool p0.fResponse, .bool p0.fAuthoritative, .bool b205, .bool p0.fDesired, .bool p0.fAvailable, .int .i64 p0.fOpcode, .int .i64 p0.fCode, .slice Ap0_0 p0.fQuestions.length cp0_0, .slice A207 l206.length c208, .slice A211 l210.length c212, .slice A215 l214.length c216] 62 (0, 0)) :: H, R, fun W => φ200 W ∧ Cl W A207 (l206.flatMap GRR.enc) ∧ Cl W A211 (l210.flatMap GRR.enc) ∧ Cl W A215 (l214.flatMap GRR.enc)⟩) (fun ⟨b205, l206, l210, l214, A207, c208, A211, c212, A215, c216⟩ => m_message_Fit_j3 p0 p1 i147 b205 l206 l210 l214 = some o2 ∧ l206.length ≤ c208 ∧ l210.length ≤ c212 ∧ l214.length ≤ c216) ?_ (fun ⟨b205, l206, l210, l214, A207, c208, A211, c212, A215, c216⟩ u ⟨hm, hc208, hc212, hc216⟩ => ?_)
   ·
    refine c_seq <| c_region <| g_v rfl r_move <| g_nil <| d_then <| c_block <| c_seq <| c_region <| g_v rfl (r_eql rfl rfl) <| g_v rfl r_assign ?_
    refine g_nil <| d_then ?_
    refine c_cond rfl (fun h226 => ?_) (fun h226 => ?_)
    ·
     replace hm := ite_t hm (of_decide_eq_true h226)
     refine c_region <| g_v rfl (r_field (n := 11) Try.underlying62 rfl Try.sizeOf32 rfl rfl) <| g_storeL (tag := 100020) rfl rfl rfl rfl Try.sizeOf32 rfl rfl <| g_nil <| d_normal_block ?_
     exact d_round (b148, l149, l153, ([] : List GRR), A150, c151, A154, c155, none, 0) ⟨hm, hc151, hc155, (Nat.le_refl 0)⟩ Nat.zero_lt_one ⟨rfl, rfl, rfl, trivial⟩ (fun W h => h.phi (fun W hφ => ⟨hφ, (fun W h => f152 W h) W hφ, (fun W h => f156 W h) W hφ, (fun W _ => Cl.nil _ _) W hφ⟩))
    ·
     replace hm := ite_f hm (of_decide_eq_false h226)
     refine c_seq <| c_region <| g_v rfl (r_eql rfl rfl) <| g_v rfl r_assign <| g_nil <| d_then ?_
     refine c_cond rfl (fun h227 => ?_) (fun h227 => ?_)
     ·
      replace hm := ite_t hm (of_decide_eq_true h227)
      refine c_region <| g_v rfl (r_field (n := 10) Try.underlying62 rfl Try.sizeOf32 rfl rfl) <| g_storeL (tag := 100020) rfl rfl rfl rfl Try.sizeOf32 rfl rfl <| g_nil <| d_normal_block ?_
      exact d_round (b148, l149, ([] : List GRR), l157, A150, c151, none, 0, A158, c159) ⟨hm, hc151, (Nat.le_refl 0), hc159⟩ Nat.zero_lt_one ⟨rfl, rfl, rfl, trivial⟩ (fun W h => h.phi (fun W hφ => ⟨hφ, (fun W h => f152 W h) W hφ, (fun W _ => Cl.nil _ _) W hφ, (fun W h => f160 W h) W hφ⟩))
     ·
      replace hm := ite_f hm (of_decide_eq_false h227)
      refine c_seq <| c_region <| g_v rfl (r_eql rfl rfl) <| g_v rfl r_assign <| g_nil <| d_then ?_
      refine c_flat [(1, .int .i64 (min p1 4096)), (2, .pointer (some ⟨g1, 0, none⟩)), (11, .int .i64 i147), (21, .bool (decide (i147 = 3)))] ⟨rfl, rfl, rfl, rfl, trivial⟩ (fun u => ?_)
      refine c_cond rfl (fun h228 => ?_) (fun h228 => ?_)
      ·
       replace hm := ite_t hm (of_decide_eq_true h228)
       refine c_region <| g_v rfl (r_field (n := 9) Try.underlying62 rfl Try.sizeOf32 rfl rfl) <| g_storeL (tag := 100020) rfl rfl rfl rfl Try.sizeOf32 rfl rfl <| g_v rfl (r_field (n := 3) Try.underlying62 rfl Try.sizeOf4 rfl rfl) <| g_storeL (tag := 100020) rfl rfl rfl rfl Try.sizeOf4 rfl rfl <| g_nil <| d_normal_block ?_
       exact d_round (true, ([] : List GRR), l153, l157, none, 0, A154, c155, A158, c159) ⟨hm, (Nat.le_refl 0), hc155, hc159⟩ Nat.zero_lt_one ⟨rfl, rfl, rfl, trivial⟩ (fun W h => h.phi (fun W hφ => ⟨hφ, (fun W _ => Cl.nil _ _) W hφ, (fun W h => f156 W h) W hφ, (fun W h => f160 W h) W hφ⟩))
      ·
       replace hm := ite_f hm (of_decide_eq_false h228)
       refine c_skip <| d_normal_block ?_
       exact d_round (b148, l149, l153, l157, A150, c151, A154, c155, A158, c159) ⟨hm, hc151, hc155, hc159⟩ Nat.zero_lt_one ⟨rfl, rfl, rfl, trivial⟩ (fun W h => h.phi (fun W hφ => ⟨hφ, (fun W h => f152 W h) W hφ, (fun W h => f156 W h) W hφ, (fun W h => f160 W h) W hφ⟩))
   ·
    unfold m_message_Fit_j3 at hm
    refine d_abs (fun φ218 q218' => ?_)
    have q218 : ∀ W, φ218 W → φ200 W := fun W h => (q218' W h).1
    have f209 := fun (W : World) (h : φ218 W) => (q218' W h).2.1
    have f213 := fun (W : World) (h : φ218 W) => (q218' W h).2.2.1
    have f217 := fun (W : World) (h : φ218 W) => (q218' W h).2.2.2
    refine d_flat [(1, .int .i64 (min p1 4096)), (2, .pointer (some ⟨g1, 0, none⟩)), (11, .int .i64 i147)] ⟨rfl, rfl, rfl, trivial⟩ (fun u => ?_)
    refine d_sta ⟨w0, M, (100020, g1, .cells #[.int .u16 p0.fID, .bool p0.fResponse, .bool p0.fAuthoritative, .bool b205, .bool p0.fDesired, .bool p0.fAvailable, .int .i64 p0.fOpcode, .int .i64 p0.fCode, .slice Ap0_0 p0.fQuestions.length cp0_0, .slice A207 l206.length c208, .slice A211 l210.length c212, .slice A215 l214.length c216] 62 (0, 0)) :: H, R, φ218⟩ (fun _ h => h) <| d_then <| c_seq <| c_region <| g_v rfl (r_loadA (tag := 100020) rfl rfl Try.isAgg62 Try.sizeOf62 rfl rfl) ?_
    replace hm := bnd hm
    obtain ⟨⟨x219, x220⟩, hx221, hm⟩ := hm
    refine g_cn ⟨w0, M, _, _, φ218⟩ (fun _ h => h) Try.call86 rfl rfl (c_message_whole (⟨p0.fID, p0.fResponse, p0.fAuthoritative, b205, p0.fDesired, p0.fAvailable, p0.fOpcode, p0.fCode, p0.fQuestions, l206, l210, l214⟩ : GMessage) Ap0_0 cp0_0 hcp0_0 (fun W hS => fp0_0 W (ok_pre (H1 := [_]) (R1 := []) hS (fun W h => (q200 _ (q218 _ h))))) A207 c208 hc208 (fun W h => f209 W h) A211 c212 hc212 (fun W h => f213 W h) A215 c216 hc216 (fun W h => f217 W h) _ hx221) (fun _ _ => ?_)
    refine g_v rfl r_move <| g_v rfl (r_extract rfl rfl) <| g_v rfl (r_extract rfl rfl) <| g_v rfl r_assign <| g_v rfl r_assign <| g_nil <| d_then <| c_seq <| c_region <| g_v rfl r_move ?_
    refine g_v rfl (r_neq rfl rfl) <| g_v rfl r_move ?_
    refine g_if rfl rfl rfl rfl rfl (fun h223 => ?_) (fun h223 => ?_)
    ·
     replace hm := ite_f hm (of_decide_eq_false h223)
     refine g_v rfl r_move <| g_do rfl rfl rfl rfl rfl h223 <| g_v rfl (r_len Try.underlying9 rfl) <| g_do rfl rfl rfl rfl rfl h223 <| g_v rfl r_move <| g_do rfl rfl rfl rfl rfl h223 <| g_v rfl (r_leq rfl rfl) <| g_v rfl (r_pick0 rfl h223) <| g_nil <| d_then ?_
     refine c_flat [(1, .int .i64 (min p1 4096)), (2, .pointer (some ⟨g1, 0, none⟩)), (7, .string x219), (8, .int .i64 x220), (11, .int .i64 i147), (37, .bool (decide ((x219.size : Int) ≤ (min p1 4096))))] ⟨rfl, rfl, rfl, rfl, rfl, rfl, trivial⟩ (fun u => ?_)
     refine c_cond rfl (fun h224 => ?_) (fun h224 => ?_)
     ·
      replace hm := ite_t hm (of_decide_eq_true h224)
      refine c_seq <| c_region <| g_v rfl r_move <| g_v rfl r_move <| g_v rfl r_assign <| g_v rfl r_assign <| g_nil <| d_then <| c_ret <| d_ret_block ?_
      refine d_ret_then <| d_ret_then <| d_ret_block <| d_ret_then <| d_ret_then ?_
      replace hm := nx_out (C := (fun e => Sum.elim (fun e => m_message_Fit_j1) (fun x => some x) e = some r)) hm hnx2 hr2
      replace hm : some (x219, x220) = some r := hm
      replace hm := Option.some.inj hm
      subst hm
      refine d_retC () Try.results54 ?_ trivial (fun W h => ok_pre (H1 := [_]) (R1 := []) h (fun W hφ => (q200 _ (q218 _ hφ)))) (.inr rfl)
      refine res_tmp <| res_tmp <| res_nil ?_
      exact rfl
     ·
      replace hm := ite_f hm (of_decide_eq_false h224)
      refine c_skip <| d_normal_block <| d_then <| c_region <| g_v rfl (r_add rfl rfl rfl) <| g_v rfl r_move <| g_nil ?_
      obtain ⟨n225, hn225, hlp⟩ := nx_inl hm hnx2
      exact d_round (n225, w64 (i147 + 1), b205, l206, l210, l214, A207, c208, A211, c212, A215, c216) ⟨hlp, hc208, hc212, hc216⟩ hn225 ⟨rfl, rfl, rfl, trivial⟩ (fun W h => h.phi (fun W hφ => ⟨(q200 _ (q218 _ hφ)), (fun W h => f209 W h) W hφ, (fun W h => f213 W h) W hφ, (fun W h => f217 W h) W hφ⟩))
    ·
     replace hm := ite_t hm (of_decide_eq_true h223)
     refine g_no rfl rfl rfl rfl rfl h223 <| g_no rfl rfl rfl rfl rfl h223 <| g_no rfl rfl rfl rfl rfl h223 <| g_v rfl (r_pick1 rfl h223) <| g_nil <| d_then ?_
     refine c_flat [(1, .int .i64 (min p1 4096)), (2, .pointer (some ⟨g1, 0, none⟩)), (7, .string x219), (8, .int .i64 x220), (11, .int .i64 i147), (37, .bool true)] ⟨rfl, rfl, rfl, rfl, rfl, rfl, trivial⟩ (fun u => ?_)
     refine c_cond1 rfl rfl <| c_seq <| c_region <| g_v rfl r_move <| g_v rfl r_move <| g_v rfl r_assign <| g_v rfl r_assign <| g_nil <| d_then <| c_ret ?_
     refine d_ret_block <| d_ret_then <| d_ret_then <| d_ret_block <| d_ret_then <| d_ret_then ?_
     replace hm := nx_out (C := (fun e => Sum.elim (fun e => m_message_Fit_j1) (fun x => some x) e = some r)) hm hnx2 hr2
     replace hm : some (x219, x220) = some r := hm
     replace hm := Option.some.inj hm
     subst hm
     refine d_retC () Try.results54 ?_ trivial (fun W h => ok_pre (H1 := [_]) (R1 := []) h (fun W hφ => (q200 _ (q218 _ hφ)))) (.inr rfl)
     refine res_tmp <| res_tmp <| res_nil ?_
     exact rfl
  ·
   replace hm := ite_f hm (of_decide_eq_false h201)
   refine c_exit <| d_exit_then <| d_exit_then <| d_exit_block ?_
   replace hm := nx_out (C := (fun e => Sum.elim (fun e => m_message_Fit_j1) (fun x => some x) e = some r)) hm hnx2 hr2
   exact d_round () hm Nat.zero_lt_one trivial (fun W h => (h.dropH (t := 100020) rfl).phi (fun W hφ => (q200 _ hφ)))
 ·
  unfold m_message_Fit_j1 at hm
  refine d_flat [] trivial (fun u => ?_)
  refine d_sta ⟨w0, M, H, R, φ⟩ (fun _ h => h) <| d_then <| c_seq <| c_region <| g_v rfl r_assign <| g_v rfl r_assign <| g_nil <| d_then <| c_ret ?_
  replace hm := Option.some.inj hm
  subst hm
  refine d_retC () Try.results54 ?_ trivial (fun W h => ok_pre (H1 := []) (R1 := []) h (fun W hφ => hφ)) (.inr rfl)
  refine res_tmp <| res_tmp <| res_nil ?_
  exact rfl
structure Gref04_Place where
  fName : ByteArray
  fAt : Int
  deriving DecidableEq
def Gref04_Place.enc (e : Gref04_Place) : List Value := [.string e.fName, .int .i64 e.fAt]
structure Gref04_Packer where
  fB : ByteArray
  fL : List Gref04_Place
theorem bld38_25  : ∀ W, (Instr.build 38 #[]).run Try.prog W = .ok (.agg #[.string (⟨#[]⟩ : ByteArray), .slice none 0 0]) W := fun _ => by kernel_rfl
noncomputable def m_ref04_Packer_Number_j1 (o0 : Gref04_Packer) (s29 : ByteArray) : Option Gref04_Packer :=
  some (⟨s29, o0.fL⟩ : Gref04_Packer)
noncomputable def m_ref04_Packer_Number_s2 (p1 : Int) (i43 : Int) (s44 : ByteArray) : Option ((Int × ByteArray) ⊕ ByteArray) :=
  if 0 ≤ i43 then
    (shOk (IntKind.u64.wrap (w64 (8 * i43)))).bind fun u65 =>
    (sadd s44 (strOfNums [IntKind.u8.wrap (shrI .i64 p1 (IntKind.u64.wrap (w64 (8 * i43))))])).bind fun s67 =>
    some (.inl (w64 (i43 - 1), s67))
  else
    some (.inr s44)
noncomputable def m_ref04_Packer_Number (p1 : Int) (p2 : Int) (o0 : Gref04_Packer) : Option Gref04_Packer :=
  (loop (fun s => m_ref04_Packer_Number_s2 p1 s.1 s.2) (w64 (p2 - 1), o0.fB)).bind fun e => m_ref04_Packer_Number_j1 o0 e
theorem c_ref04_Packer_Number {w0 : World} {M : Nat → Prop} {H : List (Nat × Nat × Obj)} {R : List (Nat × Row)} {φ : World → Prop} (p1 : Int) (p2 : Int) (go0 : Nat) (o0 : Gref04_Packer) (Ao0_0 : Option Addr) (co0_0 : Nat) (hco0_0 : o0.fL.length ≤ co0_0) (r : Gref04_Packer) (hm : m_ref04_Packer_Number p1 p2 o0 = some r) :
    Cn Try.prog 74 #[.pointer (some ⟨go0, 0, none⟩), .int .i64 p1, .int .i64 p2] ⟨w0, M, (1000, go0, .cells #[.string o0.fB, .slice Ao0_0 o0.fL.length co0_0] 38 (0, 0)) :: H, (1000, ⟨.slice Ao0_0 o0.fL.length co0_0, 145, 2, o0.fL.length, o0.fL.flatMap Gref04_Place.enc⟩) :: R, φ⟩ (fun x : Option Addr × Nat => .tuple #[]) (fun x => r.fL.length ≤ x.2) (fun x => ⟨w0, M, (1000, go0, .cells #[.string r.fB, .slice x.1 r.fL.length x.2] 38 (0, 0)) :: H, (2000, ⟨.slice x.1 r.fL.length x.2, 145, 2, r.fL.length, r.fL.flatMap Gref04_Place.enc⟩) :: R, φ⟩) := by
 unfold m_ref04_Packer_Number at hm
 refine cn_intro (fn := Try.f74) (N := 29) Try.func74 rfl Try.ntmps74 rfl <| c_seq <| c_region <| g_v rfl r_move <| g_v rfl (r_sub rfl rfl rfl) <| g_v rfl r_assign <| g_nil <| d_then ?_
 refine c_cut (ι := ByteArray) [] (fun s29 => []) (fun s29 => ⟨w0, M, (1000, go0, .cells #[.string s29, .slice Ao0_0 o0.fL.length co0_0] 38 (0, 0)) :: H, (1000, ⟨.slice Ao0_0 o0.fL.length co0_0, 145, 2, o0.fL.length, o0.fL.flatMap Gref04_Place.enc⟩) :: R, φ⟩) (fun s29 => m_ref04_Packer_Number_j1 o0 s29 = some r) ?_ (fun s29 u hm => ?_)
 ·
  refine c_block ?_
  replace hm := bnd hm
  obtain ⟨out2, hl2, hr2⟩ := hm
  obtain ⟨n57', hl2⟩ := loop_lp hl2
  refine c_loopU (ι := Nat × Int × ByteArray) [0, 1, 6] (fun ⟨n57, i43, s44⟩ => [(6, .int .i64 i43)]) (fun ⟨n57, i43, s44⟩ => ⟨w0, M, (1000, go0, .cells #[.string s44, .slice Ao0_0 o0.fL.length co0_0] 38 (0, 0)) :: H, (1000, ⟨.slice Ao0_0 o0.fL.length co0_0, 145, 2, o0.fL.length, o0.fL.flatMap Gref04_Place.enc⟩) :: R, φ⟩) (fun ⟨n57, i43, s44⟩ => Lp (fun s => m_ref04_Packer_Number_s2 p1 s.1 s.2) n57 (i43, s44) out2) (fun ⟨n57, i43, s44⟩ => n57) (n57', w64 (p2 - 1), o0.fB) hl2 ⟨rfl, rfl, rfl, trivial⟩ (fun W h => h.phi (fun W hφ => hφ)) (fun ⟨n57, i43, s44⟩ u hlp => ?_)
  obtain ⟨o2, hm, hnx2⟩ := lp_step hlp
  clear hlp
  replace hm : m_ref04_Packer_Number_s2 p1 i43 s44 = some o2 := hm
  unfold m_ref04_Packer_Number_s2 at hm
  refine c_flat [(0, .pointer (some ⟨go0, 0, none⟩)), (1, .int .i64 p1), (6, .int .i64 i43)] ⟨rfl, rfl, rfl, trivial⟩ (fun u => ?_)
  refine c_sta ⟨w0, M, (1000, go0, .cells #[.string s44, .slice Ao0_0 o0.fL.length co0_0] 38 (0, 0)) :: H, (1000, ⟨.slice Ao0_0 o0.fL.length co0_0, 145, 2, o0.fL.length, o0.fL.flatMap Gref04_Place.enc⟩) :: R, φ⟩ (fun _ h => h) <| c_seq <| c_seq <| c_region <| g_v rfl r_move <| g_v rfl (r_geq rfl rfl) <| g_nil <| d_then ?_
  refine c_cond rfl (fun h58 => ?_) (fun h58 => ?_)
  ·
   replace hm := ite_t hm (of_decide_eq_true h58)
   refine c_skip <| d_then <| c_seq <| c_block <| ga_start (n := 17) ⟨w0, M, (1000, go0, .cells #[.string s44, .slice Ao0_0 o0.fL.length co0_0] 38 (0, 0)) :: H, (1000, ⟨.slice Ao0_0 o0.fL.length co0_0, 145, 2, o0.fL.length, o0.fL.flatMap Gref04_Place.enc⟩) :: R, φ⟩ [16] #[false, false, false, false, false, false, false, false, false, false, false, false, false, false, false, false, false] (fun W h => h.phi (fun W hφ => hφ)) mixed rfl rfl <| ga_v (i := 0) (bz 17 1) rfl (by kernel_rfl) (fun _ _ _ _ h => h) rfl (r_move) <| ga_v (i := 1) (bz 17 3) rfl (by kernel_rfl) (fun _ _ _ _ h => h) rfl (r_move) <| ga_v (i := 2) (bz 17 7) rfl (by kernel_rfl) (fun _ _ _ _ h => h) rfl (r_nilck rfl) <| ga_v (i := 3) (bz 17 15) rfl (by kernel_rfl) (fun _ _ _ _ h => h) rfl (r_field (n := 0) Try.underlying38 rfl Try.sizeOf9 rfl rfl) <| ga_v (i := 4) (bz 17 31) rfl (by kernel_rfl) (fun _ _ _ _ h => h) rfl (r_load (tag := 1000) rfl rfl rfl Try.isAgg9) ?_
   refine ga_v (i := 5) (bz 17 63) rfl (by kernel_rfl) (fun _ _ _ _ h => h) rfl (r_move) <| ga_r (i := 6) (bz 17 127) rfl (by kernel_rfl) (by decide) rfl (r_move) <| ga_r (i := 7) (bz 17 255) rfl (by kernel_rfl) (by decide) rfl (r_mul rfl rfl rfl) <| ga_r (i := 8) (bz 17 511) rfl (by kernel_rfl) (by decide) rfl (r_conv Try.underlying3 Try.underlying78 rfl rfl) ?_
   replace hm := bnd hm
   obtain ⟨u65, hu65, hm⟩ := hm
   refine ga_r (i := 9) (bz 17 1023) rfl (by kernel_rfl) (by decide) rfl (r_shrV rfl rfl hu65) <| ga_r (i := 10) (bz 17 2047) rfl (by kernel_rfl) (by decide) rfl (r_conv Try.underlying3 Try.underlying5 rfl rfl) ?_
   refine ga_e (i := 11) (bz 17 4095) rfl (by kernel_rfl) (by decide) rfl  (e_lit (tag := 100240) (l := [IntKind.u8.wrap (shrI .i64 p1 (IntKind.u64.wrap (w64 (8 * i43))))]) (enc := (fun x : Int => [Value.int .u8 x])) (sz := 1) rfl Try.underlying77 (lit5_10 _) rfl rfl (fun _ => rfl)) (fun g66 W _ h => (h.dropR (t := 100240) rfl).phi (fun W hφ => hφ)) (fun g66 _ => ?_)
   refine ga_r (i := 12) (bz 17 8191) rfl (by kernel_rfl) (by decide) rfl (r_textE Try.underlying77 Try.underlying5 Try.underlying9 rfl (fun W hS => rowCl (tag := 100240) rfl W hS)) ?_
   replace hm := bnd hm
   obtain ⟨s67, hs67, hm⟩ := hm
   refine ga_r (i := 13) (bz 17 16383) rfl (by kernel_rfl) (by decide) rfl (r_addT rfl rfl hs67) <| ga_r (i := 14) (bz 17 32767) rfl (by kernel_rfl) (by decide) rfl (r_nilck rfl) <| ga_r (i := 15) (bz 17 65535) rfl (by kernel_rfl) (by decide) rfl (r_field (n := 0) Try.underlying38 rfl Try.sizeOf9 rfl rfl) <| ga_lastL (i := 16) (tag := 1000) (bz 17 131071) rfl (by kernel_rfl) (by decide) rfl rfl rfl rfl Try.sizeOf9 rfl rfl <| gz_done (by kernel_rfl) <| d_normal_block <| d_then ?_
   refine c_flat [(0, .pointer (some ⟨go0, 0, none⟩)), (1, .int .i64 p1), (6, .int .i64 i43)] ⟨rfl, rfl, rfl, trivial⟩ (fun u => ?_)
   refine c_sta ⟨w0, M, (1000, go0, .cells #[.string s67, .slice Ao0_0 o0.fL.length co0_0] 38 (0, 0)) :: H, (100240, ⟨.slice (some ⟨g66, 0, none⟩) [IntKind.u8.wrap (shrI .i64 p1 (IntKind.u64.wrap (w64 (8 * i43))))].length 1, 5, 1, [IntKind.u8.wrap (shrI .i64 p1 (IntKind.u64.wrap (w64 (8 * i43))))].length, [IntKind.u8.wrap (shrI .i64 p1 (IntKind.u64.wrap (w64 (8 * i43))))].flatMap (fun x : Int => [Value.int .u8 x])⟩) :: (1000, ⟨.slice Ao0_0 o0.fL.length co0_0, 145, 2, o0.fL.length, o0.fL.flatMap Gref04_Place.enc⟩) :: R, φ⟩ (fun _ h => h) <| c_region <| g_v rfl r_move <| g_v rfl (r_sub rfl rfl rfl) <| g_v rfl r_assign <| g_nil ?_
   obtain ⟨n68, hn68, hlp⟩ := nx_inl hm hnx2
   exact d_round (n68, w64 (i43 - 1), s67) hlp hn68 ⟨rfl, rfl, rfl, trivial⟩ (fun W h => (h.dropR (t := 100240) rfl).phi (fun W hφ => hφ))
  ·
   replace hm := ite_f hm (of_decide_eq_false h58)
   refine c_exit <| d_exit_then <| d_exit_then <| d_exit_block ?_
   replace hm := nx_out (C := (fun e => m_ref04_Packer_Number_j1 o0 e = some r)) hm hnx2 hr2
   exact d_round s44 hm Nat.zero_lt_one trivial (fun W h => h.phi (fun W hφ => hφ))
 ·
  unfold m_ref04_Packer_Number_j1 at hm
  refine d_flat [] trivial (fun u => ?_)
  refine d_sta ⟨w0, M, (1000, go0, .cells #[.string s29, .slice Ao0_0 o0.fL.length co0_0] 38 (0, 0)) :: H, (1000, ⟨.slice Ao0_0 o0.fL.length co0_0, 145, 2, o0.fL.length, o0.fL.flatMap Gref04_Place.enc⟩) :: R, φ⟩ (fun _ h => h) ?_
  replace hm := Option.some.inj hm
  subst hm
  refine d_sta _ (fun W h => ok_frontR (t := 1000) (t' := 2000) h rfl) ?_
  refine d_retC (Ao0_0, co0_0) Try.results74 ?_ hco0_0 (fun W h => h.phi (fun W hφ => hφ)) (.inl rfl)
  refine res_nil ?_
  exact rfl
noncomputable def m_ref06_bit (p0 : Bool) : Option Int :=
  if p0 = true then
    some 1
  else
    some 0
theorem c_ref06_bit {w0 : World} {M : Nat → Prop} {H : List (Nat × Nat × Obj)} {R : List (Nat × Row)} {φ : World → Prop} (p0 : Bool) (r : Int) (hm : m_ref06_bit p0 = some r) :
    Cn Try.prog 116 #[.bool p0] ⟨w0, M, H, R, φ⟩ (fun x : Unit => .int .i64 r) (fun x => True) (fun x => ⟨w0, M, H, R, φ⟩) := by
 unfold m_ref06_bit at hm
 refine cn_intro (fn := Try.f116) (N := 4) Try.func116 rfl Try.ntmps116 rfl <| c_seq <| c_region <| g_v rfl r_assign <| g_nil <| d_then <| c_seq <| c_seq <| c_region <| g_v rfl r_move ?_
 refine g_nil <| d_then ?_
 refine c_cond rfl (fun h1 => ?_) (fun h1 => ?_)
 ·
  replace hm := ite_t hm h1
  refine c_seq <| c_region <| g_v rfl r_assign <| g_nil <| d_then <| c_ret <| d_ret_then ?_
  replace hm := Option.some.inj hm
  subst hm
  refine d_retC () Try.results116 ?_ trivial (fun W h => ok_pre (H1 := []) (R1 := []) h (fun W hφ => hφ)) (.inr rfl)
  refine res_tmp <| res_nil ?_
  exact rfl
 ·
  replace hm := ite_f hm (bool_nt h1)
  refine c_skip <| d_then <| c_seq <| c_region <| g_v rfl r_assign <| g_nil <| d_then <| c_ret ?_
  replace hm := Option.some.inj hm
  subst hm
  refine d_retC () Try.results116 ?_ trivial (fun W h => ok_pre (H1 := []) (R1 := []) h (fun W hφ => hφ)) (.inr rfl)
  refine res_tmp <| res_nil ?_
  exact rfl
noncomputable def m_ref03_row_j1 (p0 : ByteArray) (l82 : List ByteArray) (i85 : Int) : Option ((List ByteArray) × Bool) :=
  some (l82, decide (i85 = w64 ((p0.size : Int) - 1)))
noncomputable def m_ref03_row_s2 (p0 : ByteArray) (l101 : List ByteArray) (i104 : Int) : Option (((List ByteArray) × Int) ⊕ (((List ByteArray) × Int) ⊕ ((List ByteArray) × Bool))) :=
  if i104 < (p0.size : Int) then
    (sat_ p0 i104).bind fun b122 =>
    if b122 ≠ 0 then
      (sat_ p0 i104).bind fun b124 =>
      if 63 < w64 b124 then
        some (.inr (.inr (([] : List ByteArray), false)))
      else
        if (p0.size : Int) < w64 ((w64 (i104 + 1)) + (w64 b124)) then
          some (.inr (.inr (([] : List ByteArray), false)))
        else
          (scutMid p0 (w64 (i104 + 1)) (w64 ((w64 (i104 + 1)) + (w64 b124)))).bind fun s127 =>
          (app 16 l101 [s127]).bind fun l129 =>
          some (.inl (l129, w64 ((w64 (i104 + 1)) + (w64 b124))))
    else
      some (.inr (.inl (l101, i104)))
  else
    some (.inr (.inl (l101, i104)))
noncomputable def m_ref03_row (p0 : ByteArray) : Option ((List ByteArray) × Bool) :=
  (loop (fun s => m_ref03_row_s2 p0 s.1 s.2) (([] : List ByteArray), 0)).bind fun e => Sum.elim (fun e => m_ref03_row_j1 p0 e.1 e.2) (fun x => some x) e
theorem c_ref03_row {w0 : World} {M : Nat → Prop} {H : List (Nat × Nat × Obj)} {R : List (Nat × Row)} {φ : World → Prop} (p0 : ByteArray) (r : (List ByteArray) × Bool) (hm : m_ref03_row p0 = some r) :
    Cn Try.prog 106 #[.string p0] ⟨w0, M, H, R, φ⟩ (fun x : Option Addr × Nat => .tuple #[.slice x.1 r.1.length x.2, .bool r.2]) (fun x => r.1.length ≤ x.2) (fun x => ⟨w0, M, H, (2000, ⟨.slice x.1 r.1.length x.2, 9, 1, r.1.length, r.1.flatMap (fun x : ByteArray => [Value.string x])⟩) :: R, φ⟩) := by
 unfold m_ref03_row at hm
 refine cn_intro (fn := Try.f106) (N := 53) Try.func106 rfl Try.ntmps106 rfl <| c_seq <| c_region <| g_v rfl r_assign <| g_v rfl r_assign <| g_nil <| d_then <| c_seq <| c_region <| g_v rfl r_assign ?_
 refine g_nil <| d_then <| c_seq <| c_region <| g_v rfl r_assign <| g_nil <| d_then <| c_seq <| c_sta _ (fun W h => nilR h 19 9 1) ?_
 refine c_cut (ι := (List ByteArray) × Int × Option Addr × Nat) [0, 4, 5] (fun ⟨l82, i85, A83, c84⟩ => [(4, .slice A83 l82.length c84), (5, .int .i64 i85)]) (fun ⟨l82, i85, A83, c84⟩ => ⟨w0, M, H, (19, ⟨.slice A83 l82.length c84, 9, 1, l82.length, l82.flatMap (fun x : ByteArray => [Value.string x])⟩) :: R, φ⟩) (fun ⟨l82, i85, A83, c84⟩ => m_ref03_row_j1 p0 l82 i85 = some r ∧ l82.length ≤ c84) ?_ (fun ⟨l82, i85, A83, c84⟩ u ⟨hm, hc84⟩ => ?_)
 ·
  refine c_block ?_
  replace hm := bnd hm
  obtain ⟨out2, hl2, hr2⟩ := hm
  obtain ⟨n120', hl2⟩ := loop_lp hl2
  refine c_loopU (ι := Nat × (List ByteArray) × Int × Option Addr × Nat) [0, 4, 5] (fun ⟨n120, l101, i104, A102, c103⟩ => [(4, .slice A102 l101.length c103), (5, .int .i64 i104)]) (fun ⟨n120, l101, i104, A102, c103⟩ => ⟨w0, M, H, (19, ⟨.slice A102 l101.length c103, 9, 1, l101.length, l101.flatMap (fun x : ByteArray => [Value.string x])⟩) :: R, φ⟩) (fun ⟨n120, l101, i104, A102, c103⟩ => Lp (fun s => m_ref03_row_s2 p0 s.1 s.2) n120 (l101, i104) out2 ∧ l101.length ≤ c103) (fun ⟨n120, l101, i104, A102, c103⟩ => n120) (n120', ([] : List ByteArray), 0, none, 0) ⟨hl2, (Nat.le_refl 0)⟩ ⟨rfl, rfl, rfl, trivial⟩ (fun W h => h.phi (fun W hφ => hφ)) (fun ⟨n120, l101, i104, A102, c103⟩ u ⟨hlp, hc103⟩ => ?_)
  obtain ⟨o2, hm, hnx2⟩ := lp_step hlp
  clear hlp
  replace hm : m_ref03_row_s2 p0 l101 i104 = some o2 := hm
  unfold m_ref03_row_s2 at hm
  refine c_flat [(0, .string p0), (4, .slice A102 l101.length c103), (5, .int .i64 i104)] ⟨rfl, rfl, rfl, trivial⟩ (fun u => ?_)
  refine c_sta ⟨w0, M, H, (19, ⟨.slice A102 l101.length c103, 9, 1, l101.length, l101.flatMap (fun x : ByteArray => [Value.string x])⟩) :: R, φ⟩ (fun _ h => h) <| c_seq <| c_seq <| c_region <| g_v rfl r_move <| g_v rfl r_move <| g_v rfl (r_len Try.underlying9 rfl) <| g_v rfl (r_lss rfl rfl) <| g_v rfl r_move ?_
  refine g_if rfl rfl rfl rfl rfl (fun h121 => ?_) (fun h121 => ?_)
  ·
   replace hm := ite_t hm (of_decide_eq_true h121)
   refine g_v rfl r_move <| g_do rfl rfl rfl rfl rfl h121 <| g_v rfl r_move <| g_do rfl rfl rfl rfl rfl h121 ?_
   replace hm := bnd hm
   obtain ⟨b122, hb122, hm⟩ := hm
   refine g_v rfl (r_sat Try.underlying9 rfl rfl hb122) <| g_do rfl rfl rfl rfl rfl h121 <| g_v rfl (r_neq rfl rfl) <| g_v rfl (r_pick1 rfl h121) <| g_nil <| d_then ?_
   refine c_flat [(0, .string p0), (4, .slice A102 l101.length c103), (5, .int .i64 i104), (16, .bool (decide (b122 ≠ 0)))] ⟨rfl, rfl, rfl, rfl, trivial⟩ (fun u => ?_)
   refine c_cond rfl (fun h123 => ?_) (fun h123 => ?_)
   ·
    replace hm := ite_t hm (of_decide_eq_true h123)
    refine c_skip <| d_then <| c_block <| c_seq <| c_region <| g_v rfl r_move <| g_v rfl r_move ?_
    replace hm := bnd hm
    obtain ⟨b124, hb124, hm⟩ := hm
    refine g_v rfl (r_sat Try.underlying9 rfl rfl hb124) <| g_v rfl (r_conv Try.underlying5 Try.underlying3 rfl rfl) <| g_v rfl r_assign <| g_nil <| d_then <| c_seq <| c_seq <| c_region <| g_v rfl r_move <| g_v rfl (r_gtr rfl rfl) ?_
    refine g_v rfl r_move ?_
    refine g_if rfl rfl rfl rfl rfl (fun h125 => ?_) (fun h125 => ?_)
    ·
     replace hm := ite_f hm (of_decide_eq_false h125)
     refine g_v rfl r_move <| g_do rfl rfl rfl rfl rfl h125 <| g_v rfl (r_add rfl rfl rfl) <| g_do rfl rfl rfl rfl rfl h125 <| g_v rfl r_move <| g_do rfl rfl rfl rfl rfl h125 <| g_v rfl (r_add rfl rfl rfl) <| g_do rfl rfl rfl rfl rfl h125 <| g_v rfl r_move <| g_do rfl rfl rfl rfl rfl h125 ?_
     refine g_v rfl (r_len Try.underlying9 rfl) <| g_do rfl rfl rfl rfl rfl h125 <| g_v rfl (r_gtr rfl rfl) <| g_v rfl (r_pick0 rfl h125) <| g_nil <| d_then ?_
     refine c_flat [(0, .string p0), (4, .slice A102 l101.length c103), (5, .int .i64 i104), (6, .int .i64 (w64 b124)), (31, .bool (decide ((p0.size : Int) < w64 ((w64 (i104 + 1)) + (w64 b124)))))] ⟨rfl, rfl, rfl, rfl, rfl, trivial⟩ (fun u => ?_)
     refine c_cond rfl (fun h126 => ?_) (fun h126 => ?_)
     ·
      replace hm := ite_t hm (of_decide_eq_true h126)
      refine c_seq <| c_region <| g_v rfl r_assign <| g_v rfl r_assign <| g_nil <| d_then <| c_ret <| d_ret_then <| d_ret_block <| d_ret_then ?_
      refine d_ret_block <| d_ret_then <| d_ret_then ?_
      replace hm := nx_out (C := (fun e => Sum.elim (fun e => m_ref03_row_j1 p0 e.1 e.2) (fun x => some x) e = some r)) hm hnx2 hr2
      replace hm : some (([] : List ByteArray), false) = some r := hm
      replace hm := Option.some.inj hm
      subst hm
      refine d_sta _ (fun W h => nilR h 28 9 1) <| d_sta _ (fun W h => ok_frontR (t := 28) (t' := 2000) h rfl) ?_
      refine d_retC (none, 0) Try.results106 ?_ (Nat.le_refl 0) (fun W h => (h.dropR (t := 19) rfl).phi (fun W hφ => hφ)) (.inr rfl)
      refine res_tmp <| res_tmp <| res_nil ?_
      exact rfl
     ·
      replace hm := ite_f hm (of_decide_eq_false h126)
      refine c_skip <| d_then <| c_seq <| c_region <| g_v rfl r_move <| g_v rfl r_move <| g_v rfl r_move <| g_v rfl (r_add rfl rfl rfl) <| g_v rfl r_move <| g_v rfl (r_add rfl rfl rfl) ?_
      refine g_v rfl r_move <| g_v rfl (r_add rfl rfl rfl) ?_
      replace hm := bnd hm
      obtain ⟨s127, hs127, hm⟩ := hm
      refine g_v rfl (r_scutMid Try.underlying9 rfl rfl rfl hs127) ?_
      refine g_e rfl (e_lit (tag := 100410) (l := [s127]) (enc := (fun x : ByteArray => [Value.string x])) (sz := 1) rfl Try.underlying105 (lit9_7 _) rfl rfl (fun _ => rfl)) (fun g128 _ => ?_)
      replace hm := bnd hm
      obtain ⟨l129, hl129, hm⟩ := hm
      refine g_e rfl (e_appR (enc := (fun x : ByteArray => [Value.string x])) (l := l101) (l1 := [s127]) (l2 := l129) (tag := 19) Try.underlying105 inf9_8 rfl (by decide) (by decide) (fun _ => rfl) (fun _ => rfl) rfl hc103 rfl rfl (fun W hS => rowCl (tag := 100410) rfl W hS) hl129) (fun ⟨A130, c131⟩ hc131 => ?_)
      refine g_v rfl r_assign <| g_nil <| d_then ?_
      refine c_flat [(0, .string p0), (4, .slice A130 l129.length c131), (5, .int .i64 i104), (6, .int .i64 (w64 b124))] ⟨rfl, rfl, rfl, rfl, trivial⟩ (fun u => ?_)
      refine c_sta ⟨w0, M, H, (100410, ⟨.slice (some ⟨g128, 0, none⟩) [s127].length 1, 9, 1, [s127].length, [s127].flatMap (fun x : ByteArray => [Value.string x])⟩) :: (19, ⟨.slice A130 l129.length c131, 9, 1, l129.length, l129.flatMap (fun x : ByteArray => [Value.string x])⟩) :: R, φ⟩ (fun _ h => h) <| c_region <| g_v rfl r_move <| g_v rfl (r_add rfl rfl rfl) <| g_v rfl r_move <| g_v rfl (r_add rfl rfl rfl) <| g_v rfl r_assign <| g_nil <| d_normal_block ?_
      obtain ⟨n132, hn132, hlp⟩ := nx_inl hm hnx2
      exact d_round (n132, l129, w64 ((w64 (i104 + 1)) + (w64 b124)), A130, c131) ⟨hlp, hc131⟩ hn132 ⟨rfl, rfl, rfl, trivial⟩ (fun W h => (h.dropR (t := 100410) rfl).phi (fun W hφ => hφ))
    ·
     replace hm := ite_t hm (of_decide_eq_true h125)
     refine g_no rfl rfl rfl rfl rfl h125 <| g_no rfl rfl rfl rfl rfl h125 <| g_no rfl rfl rfl rfl rfl h125 <| g_no rfl rfl rfl rfl rfl h125 <| g_no rfl rfl rfl rfl rfl h125 <| g_no rfl rfl rfl rfl rfl h125 <| g_v rfl (r_pick1 rfl h125) <| g_nil <| d_then ?_
     refine c_flat [(0, .string p0), (4, .slice A102 l101.length c103), (5, .int .i64 i104), (6, .int .i64 (w64 b124)), (31, .bool true)] ⟨rfl, rfl, rfl, rfl, rfl, trivial⟩ (fun u => ?_)
     refine c_cond1 rfl rfl <| c_seq <| c_region <| g_v rfl r_assign <| g_v rfl r_assign <| g_nil <| d_then <| c_ret <| d_ret_then <| d_ret_block ?_
     refine d_ret_then <| d_ret_block <| d_ret_then <| d_ret_then ?_
     replace hm := nx_out (C := (fun e => Sum.elim (fun e => m_ref03_row_j1 p0 e.1 e.2) (fun x => some x) e = some r)) hm hnx2 hr2
     replace hm : some (([] : List ByteArray), false) = some r := hm
     replace hm := Option.some.inj hm
     subst hm
     refine d_sta _ (fun W h => nilR h 29 9 1) <| d_sta _ (fun W h => ok_frontR (t := 29) (t' := 2000) h rfl) ?_
     refine d_retC (none, 0) Try.results106 ?_ (Nat.le_refl 0) (fun W h => (h.dropR (t := 19) rfl).phi (fun W hφ => hφ)) (.inr rfl)
     refine res_tmp <| res_tmp <| res_nil ?_
     exact rfl
   ·
    replace hm := ite_f hm (of_decide_eq_false h123)
    refine c_exit <| d_exit_then <| d_exit_then <| d_exit_block ?_
    replace hm := nx_out (C := (fun e => Sum.elim (fun e => m_ref03_row_j1 p0 e.1 e.2) (fun x => some x) e = some r)) hm hnx2 hr2
    exact d_round (l101, i104, A102, c103) ⟨hm, hc103⟩ Nat.zero_lt_one ⟨rfl, rfl, rfl, trivial⟩ (fun W h => h.phi (fun W hφ => hφ))
  ·
   replace hm := ite_f hm (of_decide_eq_false h121)
   refine g_no rfl rfl rfl rfl rfl h121 <| g_no rfl rfl rfl rfl rfl h121 <| g_no rfl rfl rfl rfl rfl h121 <| g_v rfl (r_pick0 rfl h121) <| g_nil <| d_then <| c_cond0 rfl rfl <| c_exit <| d_exit_then <| d_exit_then ?_
   refine d_exit_block ?_
   replace hm := nx_out (C := (fun e => Sum.elim (fun e => m_ref03_row_j1 p0 e.1 e.2) (fun x => some x) e = some r)) hm hnx2 hr2
   exact d_round (l101, i104, A102, c103) ⟨hm, hc103⟩ Nat.zero_lt_one ⟨rfl, rfl, rfl, trivial⟩ (fun W h => h.phi (fun W hφ => hφ))
 ·
  unfold m_ref03_row_j1 at hm
  refine d_flat [(0, .string p0), (4, .slice A83 l82.length c84), (5, .int .i64 i85)] ⟨rfl, rfl, rfl, trivial⟩ (fun u => ?_)
  refine d_sta ⟨w0, M, H, (19, ⟨.slice A83 l82.length c84, 9, 1, l82.length, l82.flatMap (fun x : ByteArray => [Value.string x])⟩) :: R, φ⟩ (fun _ h => h) <| d_then <| c_seq <| c_region <| g_v rfl r_move <| g_v rfl r_move <| g_v rfl r_move <| g_v rfl (r_len Try.underlying9 rfl) <| g_v rfl (r_sub rfl rfl rfl) <| g_v rfl (r_eql rfl rfl) ?_
  refine g_v rfl r_assign <| g_v rfl r_assign <| g_nil <| d_then <| c_ret ?_
  replace hm := Option.some.inj hm
  subst hm
  refine d_sta _ (fun W h => ok_frontR (t := 19) (t' := 2000) h rfl) ?_
  refine d_retC (A83, c84) Try.results106 ?_ hc84 (fun W h => h.phi (fun W hφ => hφ)) (.inr rfl)
  refine res_tmp <| res_tmp <| res_nil ?_
  exact rfl
noncomputable def m_ref03_Check (p0 : ByteArray) : Option Int :=
  (m_ref03_row p0).bind fun (z7 : (List ByteArray) × Bool) =>
  if z7.2 = true then
    if 255 < (p0.size : Int) then
      some 11
    else
      some 0
  else
    some 10
theorem c_ref03_Check {w0 : World} {M : Nat → Prop} {H : List (Nat × Nat × Obj)} {R : List (Nat × Row)} {φ : World → Prop} (p0 : ByteArray) (r : Int) (hm : m_ref03_Check p0 = some r) :
    Cn Try.prog 81 #[.string p0] ⟨w0, M, H, R, φ⟩ (fun x : Unit => .int .i64 r) (fun x => True) (fun x => ⟨w0, M, H, R, φ⟩) := by
 unfold m_ref03_Check at hm
 refine cn_intro (fn := Try.f81) (N := 15) Try.func81 rfl Try.ntmps81 rfl <| c_seq <| c_region <| g_v rfl r_assign <| g_nil <| d_then <| c_seq <| c_region <| g_v rfl r_move ?_
 replace hm := bnd hm
 obtain ⟨⟨x1, x2⟩, hx3, hm⟩ := hm
 refine g_cn ⟨w0, M, _, _, φ⟩ (fun _ h => h) Try.call106 rfl rfl (c_ref03_row p0 _ hx3) (fun ⟨A4, c5⟩ hc5 => ?_)
 refine g_sta _ (fun W h => (ok_frontR (t := 2000) (t' := 100070) h rfl)) <| g_v rfl r_move <| g_v rfl (r_extract rfl rfl) <| g_v rfl (r_extract rfl rfl) <| g_v rfl r_assign <| g_v rfl r_assign <| g_nil <| d_then <| c_seq <| c_seq ?_
 refine c_region <| g_v rfl r_move <| g_v rfl (r_not rfl) <| g_nil <| d_then ?_
 refine c_flat [(0, .string p0), (11, .bool (!x2))] ⟨rfl, rfl, trivial⟩ (fun u => ?_)
 refine c_sta ⟨w0, M, H, (100070, ⟨.slice A4 x1.length c5, 9, 1, x1.length, x1.flatMap (fun x : ByteArray => [Value.string x])⟩) :: R, φ⟩ (fun _ h => h) ?_
 refine c_cond rfl (fun h8 => ?_) (fun h8 => ?_)
 ·
  have h8' : x2 = false := by revert h8; cases x2 <;> simp
  replace hm := ite_f hm (bool_nt h8')
  refine c_seq <| c_region <| g_v rfl r_assign <| g_nil <| d_then <| c_ret <| d_ret_then ?_
  replace hm := Option.some.inj hm
  subst hm
  refine d_retC () Try.results81 ?_ trivial (fun W h => ok_pre (H1 := []) (R1 := [_]) h (fun W hφ => hφ)) (.inr rfl)
  refine res_tmp <| res_nil ?_
  exact rfl
 ·
  have h8' : x2 = true := by revert h8; cases x2 <;> simp
  replace hm := ite_t hm h8'
  refine c_skip <| d_then <| c_seq <| c_seq <| c_region <| g_v rfl r_move <| g_v rfl (r_len Try.underlying9 rfl) <| g_v rfl (r_gtr rfl rfl) <| g_nil <| d_then ?_
  refine c_cond rfl (fun h9 => ?_) (fun h9 => ?_)
  ·
   replace hm := ite_t hm (of_decide_eq_true h9)
   refine c_seq <| c_region <| g_v rfl r_assign <| g_nil <| d_then <| c_ret <| d_ret_then ?_
   replace hm := Option.some.inj hm
   subst hm
   refine d_retC () Try.results81 ?_ trivial (fun W h => ok_pre (H1 := []) (R1 := [_]) h (fun W hφ => hφ)) (.inr rfl)
   refine res_tmp <| res_nil ?_
   exact rfl
  ·
   replace hm := ite_f hm (of_decide_eq_false h9)
   refine c_skip <| d_then <| c_seq <| c_region <| g_v rfl r_assign <| g_nil <| d_then <| c_ret ?_
   replace hm := Option.some.inj hm
   subst hm
   refine d_retC () Try.results81 ?_ trivial (fun W h => ok_pre (H1 := []) (R1 := [_]) h (fun W hφ => hφ)) (.inr rfl)
   refine res_tmp <| res_nil ?_
   exact rfl
noncomputable def m_ref03_Labels (p0 : ByteArray) : Option ((List ByteArray) × Int) :=
  (m_ref03_Check p0).bind fun x1 =>
  if x1 ≠ 0 then
    some (([] : List ByteArray), x1)
  else
    (m_ref03_row p0).bind fun (z10 : (List ByteArray) × Bool) =>
    some (z10.1, 0)
theorem c_ref03_Labels {w0 : World} {M : Nat → Prop} {H : List (Nat × Nat × Obj)} {R : List (Nat × Row)} {φ : World → Prop} (p0 : ByteArray) (r : (List ByteArray) × Int) (hm : m_ref03_Labels p0 = some r) :
    Cn Try.prog 102 #[.string p0] ⟨w0, M, H, R, φ⟩ (fun x : Option Addr × Nat => .tuple #[.slice x.1 r.1.length x.2, .int .i64 r.2]) (fun x => r.1.length ≤ x.2) (fun x => ⟨w0, M, H, (2000, ⟨.slice x.1 r.1.length x.2, 9, 1, r.1.length, r.1.flatMap (fun x : ByteArray => [Value.string x])⟩) :: R, φ⟩) := by
 unfold m_ref03_Labels at hm
 refine cn_intro (fn := Try.f102) (N := 18) Try.func102 rfl Try.ntmps102 rfl <| c_seq <| c_region <| g_v rfl r_assign <| g_v rfl r_assign <| g_nil <| d_then <| c_seq <| c_region <| g_v rfl r_move ?_
 replace hm := bnd hm
 obtain ⟨x1, hx2, hm⟩ := hm
 refine g_cn ⟨w0, M, _, _, φ⟩ (fun _ h => h) Try.call81 rfl rfl (c_ref03_Check p0 _ hx2) (fun _ _ => ?_)
 refine g_v rfl r_assign <| g_nil <| d_then <| c_seq <| c_seq <| c_region <| g_v rfl r_move <| g_v rfl (r_neq rfl rfl) <| g_nil <| d_then ?_
 refine c_cond rfl (fun h3 => ?_) (fun h3 => ?_)
 ·
  replace hm := ite_t hm (of_decide_eq_true h3)
  refine c_seq <| c_region <| g_v rfl r_move <| g_v rfl r_assign <| g_v rfl r_assign <| g_nil <| d_then ?_
  refine c_flat [(2, .slice none 0 0), (3, .int .i64 x1)] ⟨rfl, rfl, trivial⟩ (fun u => ?_)
  refine c_sta ⟨w0, M, H, R, φ⟩ (fun _ h => h) <| c_ret <| d_ret_then ?_
  replace hm := Option.some.inj hm
  subst hm
  refine d_sta _ (fun W h => nilR h 11 9 1) <| d_sta _ (fun W h => ok_frontR (t := 11) (t' := 2000) h rfl) ?_
  refine d_retC (none, 0) Try.results102 ?_ (Nat.le_refl 0) (fun W h => h.phi (fun W hφ => hφ)) (.inr rfl)
  refine res_tmp <| res_tmp <| res_nil ?_
  exact rfl
 ·
  replace hm := ite_f hm (of_decide_eq_false h3)
  refine c_skip <| d_then <| c_seq <| c_region <| g_v rfl r_move ?_
  replace hm := bnd hm
  obtain ⟨⟨x4, x5⟩, hx6, hm⟩ := hm
  refine g_cn ⟨w0, M, _, _, φ⟩ (fun _ h => h) Try.call106 rfl rfl (c_ref03_row p0 _ hx6) (fun ⟨A7, c8⟩ hc8 => ?_)
  refine g_sta _ (fun W h => (ok_frontR (t := 2000) (t' := 100140) h rfl)) <| g_v rfl r_move <| g_v rfl (r_extract rfl rfl) <| g_v rfl (r_extract rfl rfl) <| g_v rfl r_assign <| g_v rfl r_assign <| g_nil <| d_then ?_
  refine c_flat [(5, .slice A7 x4.length c8)] ⟨rfl, trivial⟩ (fun u => ?_)
  refine c_sta ⟨w0, M, H, (100140, ⟨.slice A7 x4.length c8, 9, 1, x4.length, x4.flatMap (fun x : ByteArray => [Value.string x])⟩) :: R, φ⟩ (fun _ h => h) <| c_seq <| c_region <| g_v rfl r_move <| g_v rfl r_assign <| g_v rfl r_assign <| g_nil <| d_then <| c_ret ?_
  replace hm := Option.some.inj hm
  subst hm
  refine d_sta _ (fun W h => ok_frontR (t := 100140) (t' := 2000) h rfl) ?_
  refine d_retC (A7, c8) Try.results102 ?_ hc8 (fun W h => h.phi (fun W hφ => hφ)) (.inr rfl)
  refine res_tmp <| res_tmp <| res_nil ?_
  exact rfl
noncomputable def m_ref03_Make_j1  (s98 : ByteArray) : Option (ByteArray × Int) :=
  if 254 < (s98.size : Int) then
    some ((⟨#[]⟩ : ByteArray), 11)
  else
    (sadd s98 (strOfNums [0])).bind fun s101 =>
    some (s101, 0)
noncomputable def m_ref03_Make_s2 (p0 : List ByteArray) (s149 : ByteArray) (i150 : Int) : Option ((ByteArray × Int) ⊕ (ByteArray ⊕ (ByteArray × Int))) :=
  if i150 < (p0.length : Int) then
    (at_ p0 i150).bind fun x200 =>
    if (x200.size : Int) < 1 then
      some (.inr (.inr ((⟨#[]⟩ : ByteArray), 10)))
    else
      (at_ p0 i150).bind fun x205 =>
      if 63 < (x205.size : Int) then
        some (.inr (.inr ((⟨#[]⟩ : ByteArray), 10)))
      else
        if (s149.size : Int) ≤ 255 then
          (at_ p0 i150).bind fun x233 =>
          (at_ p0 i150).bind fun x237 =>
          (sadd s149 (strOfNums [IntKind.u8.wrap (x233.size : Int)])).bind fun s242 =>
          (sadd s242 x237).bind fun s243 =>
          some (.inl (s243, w64 (i150 + 1)))
        else
          some (.inl (s149, w64 (i150 + 1)))
  else
    some (.inr (.inl s149))
noncomputable def m_ref03_Make (p0 : List ByteArray) : Option (ByteArray × Int) :=
  (loop (fun s => m_ref03_Make_s2 p0 s.1 s.2) ((⟨#[]⟩ : ByteArray), 0)).bind fun e => Sum.elim (fun e => m_ref03_Make_j1 e) (fun x => some x) e
theorem c_ref03_Make {w0 : World} {M : Nat → Prop} {H : List (Nat × Nat × Obj)} {R : List (Nat × Row)} {φ : World → Prop} (p0 : List ByteArray) (Ap0_0 : Option Addr) (cp0_0 : Nat) (hcp0_0 : p0.length ≤ cp0_0) (fp0_0 : ∀ W, (Sta.mk w0 M H R φ).ok W → Cl W Ap0_0 (p0.flatMap (fun x : ByteArray => [Value.string x]))) (r : ByteArray × Int) (hm : m_ref03_Make p0 = some r) :
    Cn Try.prog 99 #[.slice Ap0_0 p0.length cp0_0] ⟨w0, M, H, R, φ⟩ (fun x : Unit => .tuple #[.string r.1, .int .i64 r.2]) (fun x => True) (fun x => ⟨w0, M, H, R, φ⟩) := by
 unfold m_ref03_Make at hm
 refine cn_intro (fn := Try.f99) (N := 51) Try.func99 rfl Try.ntmps99 rfl <| c_seq <| c_region <| g_v rfl r_assign <| g_v rfl r_assign <| g_nil <| d_then <| c_seq <| c_region <| g_v rfl r_assign ?_
 refine g_nil <| d_then <| c_seq <| c_seq <| c_region <| g_v rfl r_assign <| g_nil <| d_then ?_
 refine c_cut (ι := ByteArray) [4] (fun s98 => [(4, .string s98)]) (fun s98 => ⟨w0, M, H, R, φ⟩) (fun s98 => m_ref03_Make_j1 s98 = some r) ?_ (fun s98 u hm => ?_)
 ·
  refine c_block ?_
  replace hm := bnd hm
  obtain ⟨out2, hl2, hr2⟩ := hm
  obtain ⟨n198', hl2⟩ := loop_lp hl2
  refine c_loopU (ι := Nat × ByteArray × Int) [0, 4, 5] (fun ⟨n198, s149, i150⟩ => [(4, .string s149), (5, .int .i64 i150)]) (fun ⟨n198, s149, i150⟩ => ⟨w0, M, H, R, φ⟩) (fun ⟨n198, s149, i150⟩ => Lp (fun s => m_ref03_Make_s2 p0 s.1 s.2) n198 (s149, i150) out2) (fun ⟨n198, s149, i150⟩ => n198) (n198', (⟨#[]⟩ : ByteArray), 0) hl2 ⟨rfl, rfl, rfl, trivial⟩ (fun W h => h.phi (fun W hφ => hφ)) (fun ⟨n198, s149, i150⟩ u hlp => ?_)
  obtain ⟨o2, hm, hnx2⟩ := lp_step hlp
  clear hlp
  replace hm : m_ref03_Make_s2 p0 s149 i150 = some o2 := hm
  unfold m_ref03_Make_s2 at hm
  refine c_flat [(0, .slice Ap0_0 p0.length cp0_0), (4, .string s149), (5, .int .i64 i150)] ⟨rfl, rfl, rfl, trivial⟩ (fun u => ?_)
  refine c_sta ⟨w0, M, H, R, φ⟩ (fun _ h => h) <| c_seq <| c_seq <| c_region <| g_v rfl r_move <| g_v rfl r_move <| g_v rfl (r_lenL Try.underlying105 rfl) <| g_v rfl (r_lss rfl rfl) <| g_nil <| d_then ?_
  refine c_cond rfl (fun h199 => ?_) (fun h199 => ?_)
  ·
   replace hm := ite_t hm (of_decide_eq_true h199)
   refine c_skip <| d_then <| c_seq <| c_block <| c_seq <| c_seq <| c_region <| g_v rfl r_move <| g_v rfl r_move ?_
   replace hm := bnd hm
   obtain ⟨x200, hx200, hm⟩ := hm
   refine g_know _ (fun W hS => cl_at (p := (Sta.mk w0 M H R φ).ok) (sz := 1) (fun _ => rfl) (by decide) (ok_pre (H1 := []) (R1 := []) hS (fun W h => h)) fp0_0 hx200) ?_
   rintro ⟨ad201, hA203, f202⟩
   refine g_v rfl (r_ix Try.underlying105 Try.sizeOf9 rfl hA203 rfl hx200) <| g_v rfl (r_ld rfl Try.isAgg9 (fun W hS => Cl.head (f202 W (ok_pre (H1 := []) (R1 := []) hS (fun W h => h))))) <| g_v rfl (r_len Try.underlying9 rfl) <| g_v rfl (r_lss rfl rfl) <| g_v rfl r_move ?_
   refine g_if rfl rfl rfl rfl rfl (fun h204 => ?_) (fun h204 => ?_)
   ·
    replace hm := ite_f hm (of_decide_eq_false h204)
    refine g_v rfl r_move <| g_do rfl rfl rfl rfl rfl h204 <| g_v rfl r_move <| g_do rfl rfl rfl rfl rfl h204 ?_
    replace hm := bnd hm
    obtain ⟨x205, hx205, hm⟩ := hm
    refine g_know _ (fun W hS => cl_at (p := (Sta.mk w0 M H R φ).ok) (sz := 1) (fun _ => rfl) (by decide) (ok_pre (H1 := []) (R1 := []) hS (fun W h => h)) fp0_0 hx205) ?_
    rintro ⟨ad206, hA208, f207⟩
    refine g_v rfl (r_ix Try.underlying105 Try.sizeOf9 rfl hA208 rfl hx205) <| g_do rfl rfl rfl rfl rfl h204 <| g_v rfl (r_ld rfl Try.isAgg9 (fun W hS => Cl.head (f207 W (ok_pre (H1 := []) (R1 := []) hS (fun W h => h))))) <| g_do rfl rfl rfl rfl rfl h204 <| g_v rfl (r_len Try.underlying9 rfl) <| g_do rfl rfl rfl rfl rfl h204 <| g_v rfl (r_gtr rfl rfl) <| g_v rfl (r_pick0 rfl h204) <| g_nil <| d_then ?_
    refine c_flat [(0, .slice Ap0_0 p0.length cp0_0), (4, .string s149), (5, .int .i64 i150), (25, .bool (decide (63 < (x205.size : Int))))] ⟨rfl, rfl, rfl, rfl, trivial⟩ (fun u => ?_)
    refine c_cond rfl (fun h209 => ?_) (fun h209 => ?_)
    ·
     replace hm := ite_t hm (of_decide_eq_true h209)
     refine c_seq <| c_region <| g_v rfl r_assign <| g_v rfl r_assign <| g_nil <| d_then <| c_ret <| d_ret_then <| d_ret_block <| d_ret_then ?_
     refine d_ret_then <| d_ret_block <| d_ret_then <| d_ret_then ?_
     replace hm := nx_out (C := (fun e => Sum.elim (fun e => m_ref03_Make_j1 e) (fun x => some x) e = some r)) hm hnx2 hr2
     replace hm : some ((⟨#[]⟩ : ByteArray), 10) = some r := hm
     replace hm := Option.some.inj hm
     subst hm
     refine d_retC () Try.results99 ?_ trivial (fun W h => ok_pre (H1 := []) (R1 := []) h (fun W hφ => hφ)) (.inr rfl)
     refine res_tmp <| res_tmp <| res_nil ?_
     exact rfl
    ·
     replace hm := ite_f hm (of_decide_eq_false h209)
     refine c_skip <| d_then <| c_seq <| c_region <| g_v rfl r_move <| g_v rfl (r_len Try.underlying9 rfl) <| g_v rfl (r_leq rfl rfl) <| g_nil <| d_then ?_
     refine c_cond rfl (fun h210 => ?_) (fun h210 => ?_)
     ·
      replace hm := ite_t hm (of_decide_eq_true h210)
      refine ga_start (n := 16) ⟨w0, M, H, R, φ⟩ [] #[false, false, false, false, false, false, false, false, false, false, false, false, false, false, false, false] (fun W h => h.phi (fun W hφ => hφ)) mixed rfl rfl <| ga_v (i := 0) (bz 16 1) rfl (by kernel_rfl) (fun _ _ _ _ h => h) rfl (r_move) <| ga_v (i := 1) (bz 16 3) rfl (by kernel_rfl) (fun _ _ _ _ h => h) rfl (r_move) <| ga_v (i := 2) (bz 16 7) rfl (by kernel_rfl) (fun _ _ _ _ h => h) rfl (r_move) ?_
      replace hm := bnd hm
      obtain ⟨x233, hx233, hm⟩ := hm
      refine ga_know _ (fun W hS => cl_at (p := (Sta.mk w0 M H R φ).ok) (sz := 1) (fun _ => rfl) (by decide) (ok_pre (H1 := []) (R1 := []) hS (fun W h => h)) fp0_0 hx233) ?_
      rintro ⟨ad234, hA236, f235⟩
      refine ga_v (i := 3) (bz 16 15) rfl (by kernel_rfl) (fun _ _ _ _ h => h) rfl (r_ix Try.underlying105 Try.sizeOf9 rfl hA236 rfl hx233) <| ga_v (i := 4) (bz 16 31) rfl (by kernel_rfl) (fun _ _ _ _ h => h) rfl (r_ld rfl Try.isAgg9 (fun W hS => Cl.head (f235 W (ok_pre (H1 := []) (R1 := []) hS (fun W h => h))))) <| ga_v (i := 5) (bz 16 63) rfl (by kernel_rfl) (fun _ _ _ _ h => h) rfl (r_len Try.underlying9 rfl) <| ga_v (i := 6) (bz 16 127) rfl (by kernel_rfl) (fun _ _ _ _ h => h) rfl (r_conv Try.underlying3 Try.underlying5 rfl rfl) <| ga_v (i := 10) (bz 16 1151) rfl (by kernel_rfl) (fun _ _ _ _ h => h) rfl (r_move) <| ga_v (i := 11) (bz 16 3199) rfl (by kernel_rfl) (fun _ _ _ _ h => h) rfl (r_move) ?_
      replace hm := bnd hm
      obtain ⟨x237, hx237, hm⟩ := hm
      refine ga_know _ (fun W hS => cl_at (p := (Sta.mk w0 M H R φ).ok) (sz := 1) (fun _ => rfl) (by decide) (ok_pre (H1 := []) (R1 := []) hS (fun W h => h)) fp0_0 hx237) ?_
      rintro ⟨ad238, hA240, f239⟩
      refine ga_v (i := 12) (bz 16 7295) rfl (by kernel_rfl) (fun _ _ _ _ h => h) rfl (r_ix Try.underlying105 Try.sizeOf9 rfl hA240 rfl hx237) <| ga_v (i := 13) (bz 16 15487) rfl (by kernel_rfl) (fun _ _ _ _ h => h) rfl (r_ld rfl Try.isAgg9 (fun W hS => Cl.head (f239 W (ok_pre (H1 := []) (R1 := []) hS (fun W h => h))))) ?_
      refine ga_e (i := 7) (bz 16 15615) rfl (by kernel_rfl) (by decide) rfl  (e_lit (tag := 100360) (l := [IntKind.u8.wrap (x233.size : Int)]) (enc := (fun x : Int => [Value.int .u8 x])) (sz := 1) rfl Try.underlying77 (lit5_10 _) rfl rfl (fun _ => rfl)) (fun g241 W _ h => (h.dropR (t := 100360) rfl).phi (fun W hφ => hφ)) (fun g241 _ => ?_)
      refine ga_r (i := 8) (bz 16 15871) rfl (by kernel_rfl) (by decide) rfl (r_textE Try.underlying77 Try.underlying5 Try.underlying9 rfl (fun W hS => rowCl (tag := 100360) rfl W hS)) ?_
      replace hm := bnd hm
      obtain ⟨s242, hs242, hm⟩ := hm
      refine ga_r (i := 9) (bz 16 16383) rfl (by kernel_rfl) (by decide) rfl (r_addT rfl rfl hs242) ?_
      replace hm := bnd hm
      obtain ⟨s243, hs243, hm⟩ := hm
      refine ga_r (i := 14) (bz 16 32767) rfl (by kernel_rfl) (by decide) rfl (r_addT rfl rfl hs243) <| ga_r (i := 15) (bz 16 65535) rfl (by kernel_rfl) (by decide) rfl (r_assign) <| ga_done (by kernel_rfl) <| d_normal_block <| d_then ?_
      refine c_flat [(0, .slice Ap0_0 p0.length cp0_0), (4, .string s243), (5, .int .i64 i150)] ⟨rfl, rfl, rfl, trivial⟩ (fun u => ?_)
      refine c_sta ⟨w0, M, H, (100360, ⟨.slice (some ⟨g241, 0, none⟩) [IntKind.u8.wrap (x233.size : Int)].length 1, 5, 1, [IntKind.u8.wrap (x233.size : Int)].length, [IntKind.u8.wrap (x233.size : Int)].flatMap (fun x : Int => [Value.int .u8 x])⟩) :: R, φ⟩ (fun _ h => h) <| c_region <| g_v rfl r_move <| g_v rfl (r_add rfl rfl rfl) <| g_v rfl r_assign <| g_nil ?_
      obtain ⟨n244, hn244, hlp⟩ := nx_inl hm hnx2
      exact d_round (n244, s243, w64 (i150 + 1)) hlp hn244 ⟨rfl, rfl, rfl, trivial⟩ (fun W h => (h.dropR (t := 100360) rfl).phi (fun W hφ => hφ))
     ·
      replace hm := ite_f hm (of_decide_eq_false h210)
      refine c_skip <| d_normal_block <| d_then <| c_region <| g_v rfl r_move <| g_v rfl (r_add rfl rfl rfl) <| g_v rfl r_assign <| g_nil ?_
      obtain ⟨n245, hn245, hlp⟩ := nx_inl hm hnx2
      exact d_round (n245, s149, w64 (i150 + 1)) hlp hn245 ⟨rfl, rfl, rfl, trivial⟩ (fun W h => h.phi (fun W hφ => hφ))
   ·
    replace hm := ite_t hm (of_decide_eq_true h204)
    refine g_no rfl rfl rfl rfl rfl h204 <| g_no rfl rfl rfl rfl rfl h204 <| g_no rfl rfl rfl rfl rfl h204 <| g_no rfl rfl rfl rfl rfl h204 <| g_no rfl rfl rfl rfl rfl h204 <| g_v rfl (r_pick1 rfl h204) <| g_nil <| d_then ?_
    refine c_flat [(0, .slice Ap0_0 p0.length cp0_0), (4, .string s149), (5, .int .i64 i150), (25, .bool true)] ⟨rfl, rfl, rfl, rfl, trivial⟩ (fun u => ?_)
    refine c_cond1 rfl rfl <| c_seq <| c_region <| g_v rfl r_assign <| g_v rfl r_assign <| g_nil <| d_then <| c_ret <| d_ret_then <| d_ret_block ?_
    refine d_ret_then <| d_ret_then <| d_ret_block <| d_ret_then <| d_ret_then ?_
    replace hm := nx_out (C := (fun e => Sum.elim (fun e => m_ref03_Make_j1 e) (fun x => some x) e = some r)) hm hnx2 hr2
    replace hm : some ((⟨#[]⟩ : ByteArray), 10) = some r := hm
    replace hm := Option.some.inj hm
    subst hm
    refine d_retC () Try.results99 ?_ trivial (fun W h => ok_pre (H1 := []) (R1 := []) h (fun W hφ => hφ)) (.inr rfl)
    refine res_tmp <| res_tmp <| res_nil ?_
    exact rfl
  ·
   replace hm := ite_f hm (of_decide_eq_false h199)
   refine c_exit <| d_exit_then <| d_exit_then <| d_exit_block ?_
   replace hm := nx_out (C := (fun e => Sum.elim (fun e => m_ref03_Make_j1 e) (fun x => some x) e = some r)) hm hnx2 hr2
   exact d_round s149 hm Nat.zero_lt_one ⟨rfl, trivial⟩ (fun W h => h.phi (fun W hφ => hφ))
 ·
  unfold m_ref03_Make_j1 at hm
  refine d_flat [(4, .string s98)] ⟨rfl, trivial⟩ (fun u => ?_)
  refine d_sta ⟨w0, M, H, R, φ⟩ (fun _ h => h) <| d_then <| c_seq <| c_seq <| c_region <| g_v rfl r_move <| g_v rfl (r_len Try.underlying9 rfl) <| g_v rfl (r_gtr rfl rfl) <| g_nil <| d_then ?_
  refine c_cond rfl (fun h99 => ?_) (fun h99 => ?_)
  ·
   replace hm := ite_t hm (of_decide_eq_true h99)
   refine c_seq <| c_region <| g_v rfl r_assign <| g_v rfl r_assign <| g_nil <| d_then <| c_ret <| d_ret_then ?_
   replace hm := Option.some.inj hm
   subst hm
   refine d_retC () Try.results99 ?_ trivial (fun W h => ok_pre (H1 := []) (R1 := []) h (fun W hφ => hφ)) (.inr rfl)
   refine res_tmp <| res_tmp <| res_nil ?_
   exact rfl
  ·
   replace hm := ite_f hm (of_decide_eq_false h99)
   refine c_skip <| d_then <| c_seq <| c_region <| g_v rfl r_move ?_
   refine g_e rfl (e_lit (tag := 100480) (l := [0]) (enc := (fun x : Int => [Value.int .u8 x])) (sz := 1) rfl Try.underlying77 (lit5_10 _) rfl rfl (fun _ => rfl)) (fun g100 _ => ?_)
   refine g_v rfl (r_textE Try.underlying77 Try.underlying5 Try.underlying9 rfl (fun W hS => rowCl (tag := 100480) rfl W hS)) ?_
   replace hm := bnd hm
   obtain ⟨s101, hs101, hm⟩ := hm
   refine g_v rfl (r_addT rfl rfl hs101) <| g_v rfl r_assign <| g_v rfl r_assign <| g_nil <| d_then ?_
   refine c_flat [(2, .string s101), (3, .int .i64 0)] ⟨rfl, rfl, trivial⟩ (fun u => ?_)
   refine c_sta ⟨w0, M, H, (100480, ⟨.slice (some ⟨g100, 0, none⟩) [0].length 1, 5, 1, [0].length, [0].flatMap (fun x : Int => [Value.int .u8 x])⟩) :: R, φ⟩ (fun _ h => h) <| c_ret ?_
   replace hm := Option.some.inj hm
   subst hm
   refine d_retC () Try.results99 ?_ trivial (fun W h => ok_pre (H1 := []) (R1 := [_]) h (fun W hφ => hφ)) (.inr rfl)
   refine res_tmp <| res_tmp <| res_nil ?_
   exact rfl
noncomputable def m_ref04_Packer_find_j1  : Option Int :=
  some (-1)
noncomputable def m_ref04_Packer_find_s2 (o0 : Gref04_Packer) (p1 : ByteArray) (i42 : Int) : Option (Int ⊕ (Unit ⊕ Int)) :=
  if i42 < (o0.fL.length : Int) then
    (at_ o0.fL i42).bind fun x58 =>
    if x58.fName = p1 then
      (at_ o0.fL i42).bind fun x64 =>
      some (.inr (.inr x64.fAt))
    else
      some (.inl (w64 (i42 + 1)))
  else
    some (.inr (.inl ()))
noncomputable def m_ref04_Packer_find (p1 : ByteArray) (o0 : Gref04_Packer) : Option Int :=
  (loop (fun s => m_ref04_Packer_find_s2 o0 p1 s) 0).bind fun e => Sum.elim (fun e => m_ref04_Packer_find_j1) (fun x => some x) e
theorem c_ref04_Packer_find {w0 : World} {M : Nat → Prop} {H : List (Nat × Nat × Obj)} {R : List (Nat × Row)} {φ : World → Prop} (p1 : ByteArray) (go0 : Nat) (o0 : Gref04_Packer) (Ao0_0 : Option Addr) (co0_0 : Nat) (hco0_0 : o0.fL.length ≤ co0_0) (r : Int) (hm : m_ref04_Packer_find p1 o0 = some r) :
    Cn Try.prog 103 #[.pointer (some ⟨go0, 0, none⟩), .string p1] ⟨w0, M, (1000, go0, .cells #[.string o0.fB, .slice Ao0_0 o0.fL.length co0_0] 38 (0, 0)) :: H, (1000, ⟨.slice Ao0_0 o0.fL.length co0_0, 145, 2, o0.fL.length, o0.fL.flatMap Gref04_Place.enc⟩) :: R, φ⟩ (fun x : Unit => .int .i64 r) (fun x => True) (fun x => ⟨w0, M, (1000, go0, .cells #[.string o0.fB, .slice Ao0_0 o0.fL.length co0_0] 38 (0, 0)) :: H, (1000, ⟨.slice Ao0_0 o0.fL.length co0_0, 145, 2, o0.fL.length, o0.fL.flatMap Gref04_Place.enc⟩) :: R, φ⟩) := by
 unfold m_ref04_Packer_find at hm
 refine cn_intro (fn := Try.f103) (N := 33) Try.func103 rfl Try.ntmps103 rfl <| c_seq <| c_region <| g_v rfl r_assign <| g_nil <| d_then <| c_seq <| c_seq <| c_region <| g_v rfl r_assign ?_
 refine g_nil <| d_then ?_
 refine c_cut (ι := Unit) [] (fun _ => []) (fun _ => ⟨w0, M, (1000, go0, .cells #[.string o0.fB, .slice Ao0_0 o0.fL.length co0_0] 38 (0, 0)) :: H, (1000, ⟨.slice Ao0_0 o0.fL.length co0_0, 145, 2, o0.fL.length, o0.fL.flatMap Gref04_Place.enc⟩) :: R, φ⟩) (fun _ => m_ref04_Packer_find_j1 = some r) ?_ (fun _ u hm => ?_)
 ·
  refine c_block ?_
  replace hm := bnd hm
  obtain ⟨out2, hl2, hr2⟩ := hm
  obtain ⟨n56', hl2⟩ := loop_lp hl2
  refine c_loopU (ι := Nat × Int) [0, 1, 5] (fun ⟨n56, i42⟩ => [(5, .int .i64 i42)]) (fun ⟨n56, i42⟩ => ⟨w0, M, (1000, go0, .cells #[.string o0.fB, .slice Ao0_0 o0.fL.length co0_0] 38 (0, 0)) :: H, (1000, ⟨.slice Ao0_0 o0.fL.length co0_0, 145, 2, o0.fL.length, o0.fL.flatMap Gref04_Place.enc⟩) :: R, φ⟩) (fun ⟨n56, i42⟩ => Lp (fun s => m_ref04_Packer_find_s2 o0 p1 s) n56 i42 out2) (fun ⟨n56, i42⟩ => n56) (n56', 0) hl2 ⟨rfl, rfl, rfl, trivial⟩ (fun W h => h.phi (fun W hφ => hφ)) (fun ⟨n56, i42⟩ u hlp => ?_)
  obtain ⟨o2, hm, hnx2⟩ := lp_step hlp
  clear hlp
  replace hm : m_ref04_Packer_find_s2 o0 p1 i42 = some o2 := hm
  unfold m_ref04_Packer_find_s2 at hm
  refine c_flat [(0, .pointer (some ⟨go0, 0, none⟩)), (1, .string p1), (5, .int .i64 i42)] ⟨rfl, rfl, rfl, trivial⟩ (fun u => ?_)
  refine c_sta ⟨w0, M, (1000, go0, .cells #[.string o0.fB, .slice Ao0_0 o0.fL.length co0_0] 38 (0, 0)) :: H, (1000, ⟨.slice Ao0_0 o0.fL.length co0_0, 145, 2, o0.fL.length, o0.fL.flatMap Gref04_Place.enc⟩) :: R, φ⟩ (fun _ h => h) <| c_seq <| c_seq <| c_region <| g_v rfl r_move <| g_v rfl r_move <| g_v rfl (r_nilck rfl) <| g_v rfl (r_field (n := 1) Try.underlying38 rfl Try.sizeOf36 rfl rfl) <| g_v rfl (r_load (tag := 1000) rfl rfl rfl Try.isAgg36) <| g_v rfl (r_lenL Try.underlying36 rfl) ?_
  refine g_v rfl (r_lss rfl rfl) <| g_nil <| d_then ?_
  refine c_cond rfl (fun h57 => ?_) (fun h57 => ?_)
  ·
   replace hm := ite_t hm (of_decide_eq_true h57)
   refine c_skip <| d_then <| c_seq <| c_block <| c_seq <| c_region <| g_v rfl r_move <| g_v rfl (r_nilck rfl) <| g_v rfl (r_field (n := 1) Try.underlying38 rfl Try.sizeOf36 rfl rfl) <| g_v rfl (r_load (tag := 1000) rfl rfl rfl Try.isAgg36) ?_
   refine g_v rfl r_move ?_
   replace hm := bnd hm
   obtain ⟨x58, hx58, hm⟩ := hm
   refine g_know _ (fun W hS => cl_at (p := (Sta.ok ⟨w0, M, (1000, go0, .cells #[.string o0.fB, .slice Ao0_0 o0.fL.length co0_0] 38 (0, 0)) :: H, (1000, ⟨.slice Ao0_0 o0.fL.length co0_0, 145, 2, o0.fL.length, o0.fL.flatMap Gref04_Place.enc⟩) :: R, φ⟩)) (sz := 2) (fun _ => rfl) (by decide) hS (fun W hS => rowCl (S := ⟨w0, M, (1000, go0, .cells #[.string o0.fB, .slice Ao0_0 o0.fL.length co0_0] 38 (0, 0)) :: H, (1000, ⟨.slice Ao0_0 o0.fL.length co0_0, 145, 2, o0.fL.length, o0.fL.flatMap Gref04_Place.enc⟩) :: R, φ⟩) (tag := 1000) rfl W hS) hx58) ?_
   rintro ⟨ad59, hA61, f60⟩
   refine g_v rfl (r_ix Try.underlying36 Try.sizeOf145 rfl hA61 rfl hx58) ?_
   have f62 := fun (W : World) (h : (Sta.ok ⟨w0, M, (1000, go0, .cells #[.string o0.fB, .slice Ao0_0 o0.fL.length co0_0] 38 (0, 0)) :: H, (1000, ⟨.slice Ao0_0 o0.fL.length co0_0, 145, 2, o0.fL.length, o0.fL.flatMap Gref04_Place.enc⟩) :: R, φ⟩) W) => Cl.drop (f60 W h) 0
   refine g_v rfl (r_fieldF Try.underlying145 rfl Try.sizeOf9 rfl) <| g_v rfl (r_ld rfl Try.isAgg9 (fun W hS => Cl.head (f62 W hS))) <| g_v rfl r_move <| g_v rfl (r_eqlT rfl rfl) <| g_nil <| d_then ?_
   refine c_flat [(0, .pointer (some ⟨go0, 0, none⟩)), (1, .string p1), (5, .int .i64 i42), (24, .bool (decide (x58.fName = p1)))] ⟨rfl, rfl, rfl, rfl, trivial⟩ (fun u => ?_)
   refine c_cond rfl (fun h63 => ?_) (fun h63 => ?_)
   ·
    replace hm := ite_t hm (of_decide_eq_true h63)
    refine c_seq <| c_region <| g_v rfl r_move <| g_v rfl (r_nilck rfl) <| g_v rfl (r_field (n := 1) Try.underlying38 rfl Try.sizeOf36 rfl rfl) <| g_v rfl (r_load (tag := 1000) rfl rfl rfl Try.isAgg36) <| g_v rfl r_move ?_
    replace hm := bnd hm
    obtain ⟨x64, hx64, hm⟩ := hm
    refine g_know _ (fun W hS => cl_at (p := (Sta.ok ⟨w0, M, (1000, go0, .cells #[.string o0.fB, .slice Ao0_0 o0.fL.length co0_0] 38 (0, 0)) :: H, (1000, ⟨.slice Ao0_0 o0.fL.length co0_0, 145, 2, o0.fL.length, o0.fL.flatMap Gref04_Place.enc⟩) :: R, φ⟩)) (sz := 2) (fun _ => rfl) (by decide) hS (fun W hS => rowCl (S := ⟨w0, M, (1000, go0, .cells #[.string o0.fB, .slice Ao0_0 o0.fL.length co0_0] 38 (0, 0)) :: H, (1000, ⟨.slice Ao0_0 o0.fL.length co0_0, 145, 2, o0.fL.length, o0.fL.flatMap Gref04_Place.enc⟩) :: R, φ⟩) (tag := 1000) rfl W hS) hx64) ?_
    rintro ⟨ad65, hA67, f66⟩
    refine g_v rfl (r_ix Try.underlying36 Try.sizeOf145 rfl hA67 rfl hx64) ?_
    have f68 := fun (W : World) (h : (Sta.ok ⟨w0, M, (1000, go0, .cells #[.string o0.fB, .slice Ao0_0 o0.fL.length co0_0] 38 (0, 0)) :: H, (1000, ⟨.slice Ao0_0 o0.fL.length co0_0, 145, 2, o0.fL.length, o0.fL.flatMap Gref04_Place.enc⟩) :: R, φ⟩) W) => Cl.drop (f66 W h) 1
    refine g_v rfl (r_fieldF Try.underlying145 rfl Try.sizeOf3 rfl) <| g_v rfl (r_ld rfl Try.isAgg3 (fun W hS => Cl.head (f68 W hS))) <| g_v rfl r_assign <| g_nil <| d_then ?_
    refine c_flat [(4, .int .i64 x64.fAt)] ⟨rfl, trivial⟩ (fun u => ?_)
    refine c_ret <| d_ret_block <| d_ret_then <| d_ret_then <| d_ret_block <| d_ret_then <| d_ret_then ?_
    replace hm := nx_out (C := (fun e => Sum.elim (fun e => m_ref04_Packer_find_j1) (fun x => some x) e = some r)) hm hnx2 hr2
    replace hm : some x64.fAt = some r := hm
    replace hm := Option.some.inj hm
    subst hm
    refine d_retC () Try.results103 ?_ trivial (fun W h => h.phi (fun W hφ => hφ)) (.inr rfl)
    refine res_tmp <| res_nil ?_
    exact rfl
   ·
    replace hm := ite_f hm (of_decide_eq_false h63)
    refine c_skip <| d_normal_block <| d_then <| c_region <| g_v rfl r_move <| g_v rfl (r_add rfl rfl rfl) <| g_v rfl r_assign <| g_nil ?_
    obtain ⟨n69, hn69, hlp⟩ := nx_inl hm hnx2
    exact d_round (n69, w64 (i42 + 1)) hlp hn69 ⟨rfl, rfl, rfl, trivial⟩ (fun W h => h.phi (fun W hφ => hφ))
  ·
   replace hm := ite_f hm (of_decide_eq_false h57)
   refine c_exit <| d_exit_then <| d_exit_then <| d_exit_block ?_
   replace hm := nx_out (C := (fun e => Sum.elim (fun e => m_ref04_Packer_find_j1) (fun x => some x) e = some r)) hm hnx2 hr2
   exact d_round () hm Nat.zero_lt_one trivial (fun W h => h.phi (fun W hφ => hφ))
 ·
  unfold m_ref04_Packer_find_j1 at hm
  refine d_flat [] trivial (fun u => ?_)
  refine d_sta ⟨w0, M, (1000, go0, .cells #[.string o0.fB, .slice Ao0_0 o0.fL.length co0_0] 38 (0, 0)) :: H, (1000, ⟨.slice Ao0_0 o0.fL.length co0_0, 145, 2, o0.fL.length, o0.fL.flatMap Gref04_Place.enc⟩) :: R, φ⟩ (fun _ h => h) <| d_then <| c_seq <| c_region <| g_v rfl r_assign <| g_nil <| d_then <| c_ret ?_
  replace hm := Option.some.inj hm
  subst hm
  refine d_retC () Try.results103 ?_ trivial (fun W h => h.phi (fun W hφ => hφ)) (.inr rfl)
  refine res_tmp <| res_nil ?_
  exact rfl
theorem bld145_26 (z0 : ByteArray) (z1 : Int) : ∀ W, (Instr.build 145 #[(0, .string z0), (1, .int .i64 z1)]).run Try.prog W = .ok (.agg #[.string z0, .int .i64 z1]) W := fun _ => by kernel_rfl
theorem lit145_27 (z0 : ByteArray) (z1 : Int) : Try.prog.builtSlice 145 1 [(0, .agg #[.string z0, .int .i64 z1])] = some #[.string z0, .int .i64 z1] := by kernel_rfl
theorem inf145_28  : (Try.prog.info? 145).map (fun i => (i.zero, i.size, i.bytes)) = some (some (.agg #[.string (⟨#[]⟩ : ByteArray), .int .i64 0]), 2, 24) := by kernel_rfl
noncomputable def m_ref04_Packer_Name_j1  (l153 : List Gref04_Place) (s156 : ByteArray) : Option (Int × Gref04_Packer) :=
  (m_ref04_Packer_Number 0 1 (⟨s156, l153⟩ : Gref04_Packer)).bind fun x157 =>
  some (0, x157)
noncomputable def m_ref04_Packer_Name_j4 (l233 : List ByteArray) (i237 : Int) (s238 : ByteArray) (l337 : List Gref04_Place) : Option (((List Gref04_Place) × (List ByteArray) × Int × ByteArray) ⊕ (((List Gref04_Place) × ByteArray) ⊕ (Int × Gref04_Packer))) :=
  (at_ l233 i237).bind fun x340 =>
  (m_ref04_Packer_Number (x340.size : Int) 1 (⟨s238, l337⟩ : Gref04_Packer)).bind fun x344 =>
  (at_ l233 i237).bind fun x359 =>
  (sadd x344.fB x359).bind fun s363 =>
  some (.inl (x344.fL, l233, w64 (i237 + 1), s363))
noncomputable def m_ref04_Packer_Name_j3 (x314 : Int) (s238 : ByteArray) (l230 : List Gref04_Place) (x310 : ByteArray) (l233 : List ByteArray) (i237 : Int) : Option (((List Gref04_Place) × (List ByteArray) × Int × ByteArray) ⊕ (((List Gref04_Place) × ByteArray) ⊕ (Int × Gref04_Packer))) :=
  if x314 < 0 then
    if (s238.size : Int) < 16384 then
      (app 24 l230 [(⟨x310, (s238.size : Int)⟩ : Gref04_Place)]).bind fun l376 =>
      m_ref04_Packer_Name_j4 l233 i237 s238 l376
    else
      m_ref04_Packer_Name_j4 l233 i237 s238 l230
  else
    m_ref04_Packer_Name_j4 l233 i237 s238 l230
noncomputable def m_ref04_Packer_Name_s2 (p2 : Bool) (l230 : List Gref04_Place) (l233 : List ByteArray) (i237 : Int) (s238 : ByteArray) : Option (((List Gref04_Place) × (List ByteArray) × Int × ByteArray) ⊕ (((List Gref04_Place) × ByteArray) ⊕ (Int × Gref04_Packer))) :=
  if i237 < (l233.length : Int) then
    (cutLo l233 i237).bind fun l309 =>
    (m_ref03_Make l309).bind fun (z313 : ByteArray × Int) =>
    (m_ref04_Packer_find z313.1 (⟨s238, l230⟩ : Gref04_Packer)).bind fun x314 =>
    if p2 = true then
      if 0 ≤ x314 then
        (m_ref04_Packer_Number (w64 (49152 + x314)) 2 (⟨s238, l230⟩ : Gref04_Packer)).bind fun x381 =>
        some (.inr (.inr (0, x381)))
      else
        m_ref04_Packer_Name_j3 x314 s238 l230 z313.1 l233 i237
    else
      m_ref04_Packer_Name_j3 x314 s238 l230 z313.1 l233 i237
  else
    some (.inr (.inl (l230, s238)))
noncomputable def m_ref04_Packer_Name (p1 : ByteArray) (p2 : Bool) (o0 : Gref04_Packer) : Option (Int × Gref04_Packer) :=
  (m_ref03_Labels p1).bind fun (z7 : (List ByteArray) × Int) =>
  if z7.2 ≠ 0 then
    some (z7.2, o0)
  else
    (loop (fun s => m_ref04_Packer_Name_s2 p2 s.1 s.2.1 s.2.2.1 s.2.2.2) (o0.fL, z7.1, 0, o0.fB)).bind fun e => Sum.elim (fun e => m_ref04_Packer_Name_j1 e.1 e.2) (fun x => some x) e
theorem c_ref04_Packer_Name {w0 : World} {M : Nat → Prop} {H : List (Nat × Nat × Obj)} {R : List (Nat × Row)} {φ : World → Prop} (p1 : ByteArray) (p2 : Bool) (go0 : Nat) (o0 : Gref04_Packer) (Ao0_0 : Option Addr) (co0_0 : Nat) (hco0_0 : o0.fL.length ≤ co0_0) (r : Int × Gref04_Packer) (hm : m_ref04_Packer_Name p1 p2 o0 = some r) :
    Cn Try.prog 73 #[.pointer (some ⟨go0, 0, none⟩), .string p1, .bool p2] ⟨w0, M, (1000, go0, .cells #[.string o0.fB, .slice Ao0_0 o0.fL.length co0_0] 38 (0, 0)) :: H, (1000, ⟨.slice Ao0_0 o0.fL.length co0_0, 145, 2, o0.fL.length, o0.fL.flatMap Gref04_Place.enc⟩) :: R, φ⟩ (fun x : Option Addr × Nat => .int .i64 r.1) (fun x => r.2.fL.length ≤ x.2) (fun x => ⟨w0, M, (1000, go0, .cells #[.string r.2.fB, .slice x.1 r.2.fL.length x.2] 38 (0, 0)) :: H, (2000, ⟨.slice x.1 r.2.fL.length x.2, 145, 2, r.2.fL.length, r.2.fL.flatMap Gref04_Place.enc⟩) :: R, φ⟩) := by
 unfold m_ref04_Packer_Name at hm
 refine cn_intro (fn := Try.f73) (N := 93) Try.func73 rfl Try.ntmps73 rfl <| c_seq <| c_region <| g_v rfl r_assign <| g_nil <| d_then <| c_seq <| c_region <| g_v rfl r_move ?_
 replace hm := bnd hm
 obtain ⟨⟨x1, x2⟩, hx3, hm⟩ := hm
 refine g_cn ⟨w0, M, _, _, φ⟩ (fun _ h => h) Try.call102 rfl rfl (c_ref03_Labels p1 _ hx3) (fun ⟨A4, c5⟩ hc5 => ?_)
 refine g_sta _ (fun W h => (ok_frontR (t := 2000) (t' := 100150) h rfl)) <| g_v rfl r_move <| g_v rfl (r_extract rfl rfl) <| g_v rfl (r_extract rfl rfl) <| g_v rfl r_assign <| g_v rfl r_assign <| g_nil <| d_then <| c_seq <| c_seq ?_
 refine c_region <| g_v rfl r_move <| g_v rfl (r_neq rfl rfl) <| g_nil <| d_then ?_
 refine c_flat [(0, .pointer (some ⟨go0, 0, none⟩)), (2, .bool p2), (7, .slice A4 x1.length c5), (8, .int .i64 x2), (19, .bool (decide (x2 ≠ 0)))] ⟨rfl, rfl, rfl, rfl, rfl, trivial⟩ (fun u => ?_)
 refine c_sta ⟨w0, M, (1000, go0, .cells #[.string o0.fB, .slice Ao0_0 o0.fL.length co0_0] 38 (0, 0)) :: H, (100150, ⟨.slice A4 x1.length c5, 9, 1, x1.length, x1.flatMap (fun x : ByteArray => [Value.string x])⟩) :: (1000, ⟨.slice Ao0_0 o0.fL.length co0_0, 145, 2, o0.fL.length, o0.fL.flatMap Gref04_Place.enc⟩) :: R, φ⟩ (fun _ h => h) ?_
 refine c_cond rfl (fun h8 => ?_) (fun h8 => ?_)
 ·
  replace hm := ite_t hm (of_decide_eq_true h8)
  refine c_seq <| c_region <| g_v rfl r_move <| g_v rfl r_assign <| g_nil <| d_then <| c_ret <| d_ret_then ?_
  replace hm := Option.some.inj hm
  subst hm
  refine d_sta _ (fun W h => ok_frontR (t := 1000) (t' := 2000) h rfl) ?_
  refine d_retC (Ao0_0, co0_0) Try.results73 ?_ hco0_0 (fun W h => (h.dropR (t := 100150) rfl).phi (fun W hφ => hφ)) (.inr rfl)
  refine res_tmp <| res_nil ?_
  exact rfl
 ·
  replace hm := ite_f hm (of_decide_eq_false h8)
  refine c_skip <| d_then <| c_seq <| c_seq <| c_region <| g_v rfl r_assign <| g_nil <| d_then ?_
  refine c_cut (ι := (List Gref04_Place) × ByteArray × Option Addr × Nat) [0] (fun ⟨l153, s156, A154, c155⟩ => []) (fun ⟨l153, s156, A154, c155⟩ => ⟨w0, M, (1000, go0, .cells #[.string s156, .slice A154 l153.length c155] 38 (0, 0)) :: H, (1000, ⟨.slice A154 l153.length c155, 145, 2, l153.length, l153.flatMap Gref04_Place.enc⟩) :: R, φ⟩) (fun ⟨l153, s156, A154, c155⟩ => m_ref04_Packer_Name_j1 l153 s156 = some r ∧ l153.length ≤ c155) ?_ (fun ⟨l153, s156, A154, c155⟩ u ⟨hm, hc155⟩ => ?_)
  ·
   refine c_block ?_
   refine c_shut (tag := 100150) rfl (fun φ386 q386' => ?_)
   have q386 : ∀ W, φ386 W → φ W := fun W h => (q386' W h).1
   have f387 := fun (W : World) (h : φ386 W) => (q386' W h).2
   replace hm := bnd hm
   obtain ⟨out2, hl2, hr2⟩ := hm
   obtain ⟨n305', hl2⟩ := loop_lp hl2
   refine c_loopU (ι := Nat × (List Gref04_Place) × (List ByteArray) × Int × ByteArray × Option Addr × Nat × Option Addr × Nat) [0, 2, 7, 9] (fun ⟨n305, l230, l233, i237, s238, A231, c232, A234, c235⟩ => [(7, .slice A234 l233.length c235), (9, .int .i64 i237)]) (fun ⟨n305, l230, l233, i237, s238, A231, c232, A234, c235⟩ => ⟨w0, M, (1000, go0, .cells #[.string s238, .slice A231 l230.length c232] 38 (0, 0)) :: H, (1000, ⟨.slice A231 l230.length c232, 145, 2, l230.length, l230.flatMap Gref04_Place.enc⟩) :: R, fun W => φ W ∧ Cl W A234 (l233.flatMap (fun x : ByteArray => [Value.string x]))⟩) (fun ⟨n305, l230, l233, i237, s238, A231, c232, A234, c235⟩ => Lp (fun s => m_ref04_Packer_Name_s2 p2 s.1 s.2.1 s.2.2.1 s.2.2.2) n305 (l230, l233, i237, s238) out2 ∧ l230.length ≤ c232 ∧ l233.length ≤ c235) (fun ⟨n305, l230, l233, i237, s238, A231, c232, A234, c235⟩ => n305) (n305', o0.fL, x1, 0, o0.fB, Ao0_0, co0_0, A4, c5) ⟨hl2, hco0_0, hc5⟩ ⟨rfl, rfl, rfl, rfl, trivial⟩ (fun W h => h.phi (fun W hφ => ⟨(q386 _ hφ), (fun W h => f387 W h) W hφ⟩)) (fun ⟨n305, l230, l233, i237, s238, A231, c232, A234, c235⟩ u ⟨hlp, hc232, hc235⟩ => ?_)
   obtain ⟨o2, hm, hnx2⟩ := lp_step hlp
   clear hlp
   replace hm : m_ref04_Packer_Name_s2 p2 l230 l233 i237 s238 = some o2 := hm
   unfold m_ref04_Packer_Name_s2 at hm
   refine c_abs (fun φ306 q306' => ?_)
   have q306 : ∀ W, φ306 W → φ W := fun W h => (q306' W h).1
   have f236 := fun (W : World) (h : φ306 W) => (q306' W h).2
   refine c_flat [(0, .pointer (some ⟨go0, 0, none⟩)), (2, .bool p2), (7, .slice A234 l233.length c235), (9, .int .i64 i237)] ⟨rfl, rfl, rfl, rfl, trivial⟩ (fun u => ?_)
   refine c_sta ⟨w0, M, (1000, go0, .cells #[.string s238, .slice A231 l230.length c232] 38 (0, 0)) :: H, (1000, ⟨.slice A231 l230.length c232, 145, 2, l230.length, l230.flatMap Gref04_Place.enc⟩) :: R, φ306⟩ (fun _ h => h) <| c_seq <| c_seq <| c_region <| g_v rfl r_move <| g_v rfl r_move <| g_v rfl (r_lenL Try.underlying105 rfl) <| g_v rfl (r_lss rfl rfl) <| g_nil <| d_then ?_
   refine c_cond rfl (fun h307 => ?_) (fun h307 => ?_)
   ·
    replace hm := ite_t hm (of_decide_eq_true h307)
    refine c_skip <| d_then <| c_seq <| c_block <| c_seq <| c_region <| g_v rfl r_move <| g_v rfl r_move ?_
    replace hm := bnd hm
    obtain ⟨l309, hl309, hm⟩ := hm
    have f308 := fun (W : World) (h : φ306 W) => cl_cutLo (enc := (fun x : ByteArray => [Value.string x])) (sz := 1) (c := c235) (fun _ => rfl) hc235 hl309 (f236 W h)
    refine g_v rfl (r_lcutLo Try.underlying105 Try.sizeOf9 rfl hc235 rfl hl309) ?_
    replace hm := bnd hm
    obtain ⟨⟨x310, x311⟩, hx312, hm⟩ := hm
    refine g_cn ⟨w0, M, _, _, φ306⟩ (fun _ h => h) Try.call99 rfl rfl (c_ref03_Make l309 (if c235 = (i237).toNat then A234 else A234.map (·.add ((i237).toNat * 1))) (c235 - (i237).toNat) (cutLo_len hc235 hl309) (fun W hS => f308 W hS.now) _ hx312) (fun _ _ => ?_)
    refine g_v rfl r_move <| g_v rfl (r_extract rfl rfl) <| g_v rfl (r_extract rfl rfl) <| g_v rfl r_assign <| g_v rfl r_assign <| g_nil <| d_then ?_
    refine c_flat [(0, .pointer (some ⟨go0, 0, none⟩)), (2, .bool p2), (7, .slice A234 l233.length c235), (9, .int .i64 i237), (10, .string x310)] ⟨rfl, rfl, rfl, rfl, rfl, trivial⟩ (fun u => ?_)
    refine c_seq <| c_region <| g_v rfl r_move <| g_v rfl r_move ?_
    replace hm := bnd hm
    obtain ⟨x314, hx315, hm⟩ := hm
    refine g_cn ⟨w0, M, (1000, go0, .cells #[.string s238, .slice A231 l230.length c232] 38 (0, 0)) :: H, (1000, ⟨.slice A231 l230.length c232, 145, 2, l230.length, l230.flatMap Gref04_Place.enc⟩) :: R, φ306⟩ (fun W h => (ok_front (t := 1000) (t' := 1000) (ok_frontR (t := 1000) (t' := 1000) h rfl) rfl)) Try.call103 rfl rfl (c_ref04_Packer_find x310 go0 (⟨s238, l230⟩ : Gref04_Packer) A231 c232 hc232 _ hx315) (fun _ _ => ?_)
    refine g_sta _ (fun W h => (ok_frontR (t := 1000) (t' := 1000) (ok_front (t := 1000) (t' := 1000) h rfl) rfl)) <| g_v rfl r_assign <| g_nil <| d_then <| c_seq ?_
    refine c_cut (ι := Unit) [0, 2, 7, 9, 10, 12] (fun _ => []) (fun _ => ⟨w0, M, (1000, go0, .cells #[.string s238, .slice A231 l230.length c232] 38 (0, 0)) :: H, (1000, ⟨.slice A231 l230.length c232, 145, 2, l230.length, l230.flatMap Gref04_Place.enc⟩) :: R, φ306⟩) (fun _ => m_ref04_Packer_Name_j3 x314 s238 l230 x310 l233 i237 = some o2) ?_ (fun _ u hm => ?_)
    ·
     refine c_seq <| c_region <| g_v rfl r_move <| g_v rfl r_move ?_
     refine g_if rfl rfl rfl rfl rfl (fun h379 => ?_) (fun h379 => ?_)
     ·
      replace hm := ite_t hm h379
      refine g_v rfl r_move <| g_do rfl rfl rfl rfl rfl h379 <| g_v rfl (r_geq rfl rfl) <| g_v rfl (r_pick1 rfl h379) <| g_nil <| d_then ?_
      refine c_flat [(0, .pointer (some ⟨go0, 0, none⟩)), (2, .bool p2), (7, .slice A234 l233.length c235), (9, .int .i64 i237), (10, .string x310), (12, .int .i64 x314), (41, .bool (decide (0 ≤ x314)))] ⟨rfl, rfl, rfl, rfl, rfl, rfl, rfl, trivial⟩ (fun u => ?_)
      refine c_cond rfl (fun h380 => ?_) (fun h380 => ?_)
      ·
       replace hm := ite_t hm (of_decide_eq_true h380)
       refine c_seq <| c_region <| g_v rfl r_move <| g_v rfl r_move <| g_v rfl (r_add rfl rfl rfl) ?_
       replace hm := bnd hm
       obtain ⟨x381, hx382, hm⟩ := hm
       refine g_cn ⟨w0, M, (1000, go0, .cells #[.string s238, .slice A231 l230.length c232] 38 (0, 0)) :: H, (1000, ⟨.slice A231 l230.length c232, 145, 2, l230.length, l230.flatMap Gref04_Place.enc⟩) :: R, φ306⟩ (fun W h => (ok_front (t := 1000) (t' := 1000) (ok_frontR (t := 1000) (t' := 1000) h rfl) rfl)) Try.call74 rfl rfl (c_ref04_Packer_Number (w64 (49152 + x314)) 2 go0 (⟨s238, l230⟩ : Gref04_Packer) A231 c232 hc232 _ hx382) (fun ⟨A383, c384⟩ hc384 => ?_)
       refine g_sta _ (fun W h => (ok_frontR (t := 2000) (t' := 1000) (ok_front (t := 1000) (t' := 1000) h rfl) rfl)) <| g_nil <| d_then <| c_seq <| c_region <| g_v rfl r_assign <| g_nil <| d_then <| c_ret <| d_ret_then ?_
       refine d_ret_then <| d_ret_block <| d_ret_then <| d_ret_then <| d_ret_block <| d_ret_then <| d_ret_then ?_
       replace hm := nx_out (C := (fun e => Sum.elim (fun e => m_ref04_Packer_Name_j1 e.1 e.2) (fun x => some x) e = some r)) hm hnx2 hr2
       replace hm : some (0, x381) = some r := hm
       replace hm := Option.some.inj hm
       subst hm
       refine d_sta _ (fun W h => ok_frontR (t := 1000) (t' := 2000) h rfl) ?_
       refine d_retC (A383, c384) Try.results73 ?_ hc384 (fun W h => h.phi (fun W hφ => (q306 _ hφ))) (.inr rfl)
       refine res_tmp <| res_nil ?_
       exact rfl
      ·
       replace hm := ite_f hm (of_decide_eq_false h380)
       refine c_skip ?_
       exact d_round () hm Nat.zero_lt_one ⟨rfl, rfl, rfl, rfl, rfl, rfl, trivial⟩ (fun W h => h.phi (fun W hφ => hφ))
     ·
      replace hm := ite_f hm (bool_nt h379)
      refine g_no rfl rfl rfl rfl rfl h379 <| g_v rfl (r_pick0 rfl h379) <| g_nil <| d_then <| c_cond0 rfl rfl <| c_skip ?_
      exact d_round () hm Nat.zero_lt_one ⟨rfl, rfl, rfl, rfl, rfl, rfl, trivial⟩ (fun W h => h.phi (fun W hφ => hφ))
    ·
     unfold m_ref04_Packer_Name_j3 at hm
     refine d_flat [(0, .pointer (some ⟨go0, 0, none⟩)), (2, .bool p2), (7, .slice A234 l233.length c235), (9, .int .i64 i237), (10, .string x310), (12, .int .i64 x314)] ⟨rfl, rfl, rfl, rfl, rfl, rfl, trivial⟩ (fun u => ?_)
     refine d_then <| c_seq ?_
     refine c_cut (ι := (List Gref04_Place) × Option Addr × Nat) [0, 2, 7, 9] (fun ⟨l337, A338, c339⟩ => []) (fun ⟨l337, A338, c339⟩ => ⟨w0, M, (1000, go0, .cells #[.string s238, .slice A338 l337.length c339] 38 (0, 0)) :: H, (1000, ⟨.slice A338 l337.length c339, 145, 2, l337.length, l337.flatMap Gref04_Place.enc⟩) :: R, φ306⟩) (fun ⟨l337, A338, c339⟩ => m_ref04_Packer_Name_j4 l233 i237 s238 l337 = some o2 ∧ l337.length ≤ c339) ?_ (fun ⟨l337, A338, c339⟩ u ⟨hm, hc339⟩ => ?_)
     ·
      refine c_seq <| c_region <| g_v rfl r_move <| g_v rfl (r_lss rfl rfl) <| g_v rfl r_move ?_
      refine g_if rfl rfl rfl rfl rfl (fun h365 => ?_) (fun h365 => ?_)
      ·
       replace hm := ite_t hm (of_decide_eq_true h365)
       refine g_v rfl r_move <| g_do rfl rfl rfl rfl rfl h365 <| g_v rfl (r_nilck rfl) <| g_do rfl rfl rfl rfl rfl h365 <| g_v rfl (r_field (n := 0) Try.underlying38 rfl Try.sizeOf9 rfl rfl) <| g_do rfl rfl rfl rfl rfl h365 <| g_v rfl (r_load (tag := 1000) rfl rfl rfl Try.isAgg9) <| g_do rfl rfl rfl rfl rfl h365 <| g_v rfl (r_len Try.underlying9 rfl) <| g_do rfl rfl rfl rfl rfl h365 ?_
       refine g_v rfl (r_lss rfl rfl) <| g_v rfl (r_pick1 rfl h365) <| g_nil <| d_then ?_
       refine c_flat [(0, .pointer (some ⟨go0, 0, none⟩)), (2, .bool p2), (7, .slice A234 l233.length c235), (9, .int .i64 i237), (10, .string x310), (55, .bool (decide ((s238.size : Int) < 16384)))] ⟨rfl, rfl, rfl, rfl, rfl, rfl, trivial⟩ (fun u => ?_)
       refine c_cond rfl (fun h366 => ?_) (fun h366 => ?_)
       ·
        replace hm := ite_t hm (of_decide_eq_true h366)
        refine ga_start (n := 17) ⟨w0, M, (1000, go0, .cells #[.string s238, .slice A231 l230.length c232] 38 (0, 0)) :: H, R, φ306⟩ [16] #[false, false, false, false, false, false, false, false, false, false, false, false, false, false, false, false, false] (fun W h => (h.dropR (t := 1000) rfl).phi (fun W hφ => hφ)) mixed rfl rfl <| ga_v (i := 0) (bz 17 1) rfl (by kernel_rfl) (fun _ _ _ _ h => h) rfl (r_move) <| ga_v (i := 1) (bz 17 3) rfl (by kernel_rfl) (fun _ _ _ _ h => h) rfl (r_move) <| ga_v (i := 2) (bz 17 7) rfl (by kernel_rfl) (fun _ _ _ _ h => h) rfl (r_nilck rfl) <| ga_v (i := 3) (bz 17 15) rfl (by kernel_rfl) (fun _ _ _ _ h => h) rfl (r_field (n := 1) Try.underlying38 rfl Try.sizeOf36 rfl rfl) <| ga_v (i := 4) (bz 17 31) rfl (by kernel_rfl) (fun _ _ _ _ h => h) rfl (r_load (tag := 1000) rfl rfl rfl Try.isAgg36) <| ga_v (i := 5) (bz 17 63) rfl (by kernel_rfl) (fun _ _ _ _ h => h) rfl (r_move) <| ga_r (i := 6) (bz 17 127) rfl (by kernel_rfl) (by decide) rfl (r_move) <| ga_r (i := 7) (bz 17 255) rfl (by kernel_rfl) (by decide) rfl (r_nilck rfl) <| ga_r (i := 8) (bz 17 511) rfl (by kernel_rfl) (by decide) rfl (r_field (n := 0) Try.underlying38 rfl Try.sizeOf9 rfl rfl) ?_
        refine ga_r (i := 9) (bz 17 1023) rfl (by kernel_rfl) (by decide) rfl (r_load (tag := 1000) rfl rfl rfl Try.isAgg9) <| ga_r (i := 10) (bz 17 2047) rfl (by kernel_rfl) (by decide) rfl (r_len Try.underlying9 rfl) <| ga_r (i := 11) (bz 17 4095) rfl (by kernel_rfl) (by decide) rfl (r_build _ rfl (bld145_26 _ _)) ?_
        refine ga_e (i := 12) (bz 17 8191) rfl (by kernel_rfl) (by decide) rfl  (e_lit (tag := 100680) (l := [(⟨x310, (s238.size : Int)⟩ : Gref04_Place)]) (enc := Gref04_Place.enc) (sz := 2) rfl Try.underlying36 (lit145_27 _ _) rfl rfl (fun _ => rfl)) (fun g375 W _ h => ((h.dropR (t := 100680) rfl).dropR (t := 1000) rfl).phi (fun W hφ => hφ)) (fun g375 _ => ?_)
        replace hm := bnd hm
        obtain ⟨l376, hl376, hm⟩ := hm
        refine ga_e (i := 13) (bz 17 16383) rfl (by kernel_rfl) (by decide) rfl  (e_appR (enc := Gref04_Place.enc) (l := l230) (l1 := [(⟨x310, (s238.size : Int)⟩ : Gref04_Place)]) (l2 := l376) (tag := 1000) Try.underlying36 inf145_28 rfl (by decide) (by decide) (fun _ => rfl) (fun _ => rfl) rfl hc232 rfl rfl (fun W hS => rowCl (tag := 100680) rfl W hS) hl376) (fun ⟨A377, c378⟩ W hc378 h => ((h.dropR (t := 100680) rfl).dropR (t := 1000) rfl).phi (fun W hφ => hφ)) (fun ⟨A377, c378⟩ hc378 => ?_)
        refine ga_r (i := 14) (bz 17 32767) rfl (by kernel_rfl) (by decide) rfl (r_nilck rfl) <| ga_r (i := 15) (bz 17 65535) rfl (by kernel_rfl) (by decide) rfl (r_field (n := 1) Try.underlying38 rfl Try.sizeOf36 rfl rfl) <| ga_lastL (i := 16) (tag := 1000) (bz 17 131071) rfl (by kernel_rfl) (by decide) rfl rfl rfl rfl Try.sizeOf36 rfl rfl <| gz_done (by kernel_rfl) ?_
        exact d_round (l376, A377, c378) ⟨hm, hc378⟩ Nat.zero_lt_one ⟨rfl, rfl, rfl, rfl, trivial⟩ (fun W h => (h.dropR (t := 100680) rfl).phi (fun W hφ => hφ))
       ·
        replace hm := ite_f hm (of_decide_eq_false h366)
        refine c_skip ?_
        exact d_round (l230, A231, c232) ⟨hm, hc232⟩ Nat.zero_lt_one ⟨rfl, rfl, rfl, rfl, trivial⟩ (fun W h => h.phi (fun W hφ => hφ))
      ·
       replace hm := ite_f hm (of_decide_eq_false h365)
       refine g_no rfl rfl rfl rfl rfl h365 <| g_no rfl rfl rfl rfl rfl h365 <| g_no rfl rfl rfl rfl rfl h365 <| g_no rfl rfl rfl rfl rfl h365 <| g_no rfl rfl rfl rfl rfl h365 <| g_v rfl (r_pick0 rfl h365) <| g_nil <| d_then <| c_cond0 rfl rfl <| c_skip ?_
       exact d_round (l230, A231, c232) ⟨hm, hc232⟩ Nat.zero_lt_one ⟨rfl, rfl, rfl, rfl, trivial⟩ (fun W h => h.phi (fun W hφ => hφ))
     ·
      unfold m_ref04_Packer_Name_j4 at hm
      refine d_flat [(0, .pointer (some ⟨go0, 0, none⟩)), (2, .bool p2), (7, .slice A234 l233.length c235), (9, .int .i64 i237)] ⟨rfl, rfl, rfl, rfl, trivial⟩ (fun u => ?_)
      refine d_sta ⟨w0, M, (1000, go0, .cells #[.string s238, .slice A338 l337.length c339] 38 (0, 0)) :: H, (1000, ⟨.slice A338 l337.length c339, 145, 2, l337.length, l337.flatMap Gref04_Place.enc⟩) :: R, φ306⟩ (fun _ h => h) <| d_then <| c_seq <| c_region <| g_v rfl r_move <| g_v rfl r_move <| g_v rfl r_move ?_
      replace hm := bnd hm
      obtain ⟨x340, hx340, hm⟩ := hm
      refine g_know _ (fun W hS => cl_at (p := φ306) (sz := 1) (fun _ => rfl) (by decide) hS.now f236 hx340) ?_
      rintro ⟨ad341, hA343, f342⟩
      refine g_v rfl (r_ix Try.underlying105 Try.sizeOf9 rfl hA343 rfl hx340) <| g_v rfl (r_ld rfl Try.isAgg9 (fun W hS => Cl.head (f342 W hS.now))) <| g_v rfl (r_len Try.underlying9 rfl) ?_
      replace hm := bnd hm
      obtain ⟨x344, hx345, hm⟩ := hm
      refine g_cn ⟨w0, M, (1000, go0, .cells #[.string s238, .slice A338 l337.length c339] 38 (0, 0)) :: H, (1000, ⟨.slice A338 l337.length c339, 145, 2, l337.length, l337.flatMap Gref04_Place.enc⟩) :: R, φ306⟩ (fun W h => (ok_front (t := 1000) (t' := 1000) (ok_frontR (t := 1000) (t' := 1000) h rfl) rfl)) Try.call74 rfl rfl (c_ref04_Packer_Number (x340.size : Int) 1 go0 (⟨s238, l337⟩ : Gref04_Packer) A338 c339 hc339 _ hx345) (fun ⟨A346, c347⟩ hc347 => ?_)
      refine g_sta _ (fun W h => (ok_frontR (t := 2000) (t' := 1000) (ok_front (t := 1000) (t' := 1000) h rfl) rfl)) <| g_nil <| d_then <| ga_start (n := 13) ⟨w0, M, (1000, go0, .cells #[.string x344.fB, .slice A346 x344.fL.length c347] 38 (0, 0)) :: H, (1000, ⟨.slice A346 x344.fL.length c347, 145, 2, x344.fL.length, x344.fL.flatMap Gref04_Place.enc⟩) :: R, φ306⟩ [12] #[false, false, false, false, false, false, false, false, false, false, false, false, false] (fun W h => h.phi (fun W hφ => hφ)) mixed rfl rfl <| ga_v (i := 0) (bz 13 1) rfl (by kernel_rfl) (fun _ _ _ _ h => h) rfl (r_move) <| ga_v (i := 1) (bz 13 3) rfl (by kernel_rfl) (fun _ _ _ _ h => h) rfl (r_move) <| ga_v (i := 2) (bz 13 7) rfl (by kernel_rfl) (fun _ _ _ _ h => h) rfl (r_nilck rfl) <| ga_v (i := 3) (bz 13 15) rfl (by kernel_rfl) (fun _ _ _ _ h => h) rfl (r_field (n := 0) Try.underlying38 rfl Try.sizeOf9 rfl rfl) <| ga_v (i := 4) (bz 13 31) rfl (by kernel_rfl) (fun _ _ _ _ h => h) rfl (r_load (tag := 1000) rfl rfl rfl Try.isAgg9) <| ga_v (i := 5) (bz 13 63) rfl (by kernel_rfl) (fun _ _ _ _ h => h) rfl (r_move) ?_
      refine ga_r (i := 6) (bz 13 127) rfl (by kernel_rfl) (by decide) rfl (r_move) ?_
      replace hm := bnd hm
      obtain ⟨x359, hx359, hm⟩ := hm
      refine ga_know _ (fun W hS => cl_at (p := φ306) (sz := 1) (fun _ => rfl) (by decide) hS.now f236 hx359) ?_
      rintro ⟨ad360, hA362, f361⟩
      refine ga_r (i := 7) (bz 13 255) rfl (by kernel_rfl) (by decide) rfl (r_ix Try.underlying105 Try.sizeOf9 rfl hA362 rfl hx359) <| ga_r (i := 8) (bz 13 511) rfl (by kernel_rfl) (by decide) rfl (r_ld rfl Try.isAgg9 (fun W hS => Cl.head (f361 W hS.now))) ?_
      replace hm := bnd hm
      obtain ⟨s363, hs363, hm⟩ := hm
      refine ga_r (i := 9) (bz 13 1023) rfl (by kernel_rfl) (by decide) rfl (r_addT rfl rfl hs363) <| ga_r (i := 10) (bz 13 2047) rfl (by kernel_rfl) (by decide) rfl (r_nilck rfl) <| ga_r (i := 11) (bz 13 4095) rfl (by kernel_rfl) (by decide) rfl (r_field (n := 0) Try.underlying38 rfl Try.sizeOf9 rfl rfl) <| ga_lastL (i := 12) (tag := 1000) (bz 13 8191) rfl (by kernel_rfl) (by decide) rfl rfl rfl rfl Try.sizeOf9 rfl rfl <| gz_done (by kernel_rfl) <| d_normal_block <| d_then ?_
      refine c_flat [(0, .pointer (some ⟨go0, 0, none⟩)), (2, .bool p2), (7, .slice A234 l233.length c235), (9, .int .i64 i237)] ⟨rfl, rfl, rfl, rfl, trivial⟩ (fun u => ?_)
      refine c_sta ⟨w0, M, (1000, go0, .cells #[.string s363, .slice A346 x344.fL.length c347] 38 (0, 0)) :: H, (1000, ⟨.slice A346 x344.fL.length c347, 145, 2, x344.fL.length, x344.fL.flatMap Gref04_Place.enc⟩) :: R, φ306⟩ (fun _ h => h) <| c_region <| g_v rfl r_move <| g_v rfl (r_add rfl rfl rfl) <| g_v rfl r_assign <| g_nil ?_
      obtain ⟨n364, hn364, hlp⟩ := nx_inl hm hnx2
      exact d_round (n364, x344.fL, l233, w64 (i237 + 1), s363, A346, c347, A234, c235) ⟨hlp, hc347, hc235⟩ hn364 ⟨rfl, rfl, rfl, rfl, trivial⟩ (fun W h => h.phi (fun W hφ => ⟨(q306 _ hφ), (fun W h => f236 W h) W hφ⟩))
   ·
    replace hm := ite_f hm (of_decide_eq_false h307)
    refine c_exit <| d_exit_then <| d_exit_then <| d_exit_block ?_
    replace hm := nx_out (C := (fun e => Sum.elim (fun e => m_ref04_Packer_Name_j1 e.1 e.2) (fun x => some x) e = some r)) hm hnx2 hr2
    exact d_round (l230, s238, A231, c232) ⟨hm, hc232⟩ Nat.zero_lt_one ⟨rfl, trivial⟩ (fun W h => h.phi (fun W hφ => (q306 _ hφ)))
  ·
   unfold m_ref04_Packer_Name_j1 at hm
   refine d_flat [(0, .pointer (some ⟨go0, 0, none⟩))] ⟨rfl, trivial⟩ (fun u => ?_)
   refine d_sta ⟨w0, M, (1000, go0, .cells #[.string s156, .slice A154 l153.length c155] 38 (0, 0)) :: H, (1000, ⟨.slice A154 l153.length c155, 145, 2, l153.length, l153.flatMap Gref04_Place.enc⟩) :: R, φ⟩ (fun _ h => h) <| d_then <| c_seq <| c_region <| g_v rfl r_move ?_
   replace hm := bnd hm
   obtain ⟨x157, hx158, hm⟩ := hm
   refine g_cn ⟨w0, M, (1000, go0, .cells #[.string s156, .slice A154 l153.length c155] 38 (0, 0)) :: H, (1000, ⟨.slice A154 l153.length c155, 145, 2, l153.length, l153.flatMap Gref04_Place.enc⟩) :: R, φ⟩ (fun W h => (ok_front (t := 1000) (t' := 1000) (ok_frontR (t := 1000) (t' := 1000) h rfl) rfl)) Try.call74 rfl rfl (c_ref04_Packer_Number 0 1 go0 (⟨s156, l153⟩ : Gref04_Packer) A154 c155 hc155 _ hx158) (fun ⟨A159, c160⟩ hc160 => ?_)
   refine g_sta _ (fun W h => (ok_frontR (t := 2000) (t' := 1000) (ok_front (t := 1000) (t' := 1000) h rfl) rfl)) <| g_nil <| d_then <| c_seq <| c_region <| g_v rfl r_assign <| g_nil <| d_then <| c_ret ?_
   replace hm := Option.some.inj hm
   subst hm
   refine d_sta _ (fun W h => ok_frontR (t := 1000) (t' := 2000) h rfl) ?_
   refine d_retC (A159, c160) Try.results73 ?_ hc160 (fun W h => h.phi (fun W hφ => hφ)) (.inr rfl)
   refine res_tmp <| res_nil ?_
   exact rfl
noncomputable def m_ref05_head_j1 (p0 : Int) (b3 : Bool) : Option (Int × Int × Int × Bool) :=
  if b3 = true then
    some (0, 1, 0, true)
  else
    if p0 = 15 then
      some (2, 1, 0, true)
    else
      if p0 = 6 then
        some (0, 2, 20, true)
      else
        some (0, 0, 0, false)
noncomputable def m_ref05_head (p0 : Int) : Option (Int × Int × Int × Bool) :=
  if p0 = 2 then
    m_ref05_head_j1 p0 (decide (p0 = 2))
  else
    if p0 = 5 then
      m_ref05_head_j1 p0 (decide (p0 = 5))
    else
      m_ref05_head_j1 p0 (decide (p0 = 12))
theorem c_ref05_head {w0 : World} {M : Nat → Prop} {H : List (Nat × Nat × Obj)} {R : List (Nat × Row)} {φ : World → Prop} (p0 : Int) (r : Int × Int × Int × Bool) (hm : m_ref05_head p0 = some r) :
    Cn Try.prog 66 #[.int .u16 p0] ⟨w0, M, H, R, φ⟩ (fun x : Unit => .tuple #[.int .i64 r.1, .int .i64 r.2.1, .int .i64 r.2.2.1, .bool r.2.2.2]) (fun x => True) (fun x => ⟨w0, M, H, R, φ⟩) := by
 unfold m_ref05_head at hm
 refine cn_intro (fn := Try.f66) (N := 15) Try.func66 rfl Try.ntmps66 rfl <| c_seq <| c_region <| g_v rfl r_assign <| g_v rfl r_assign <| g_v rfl r_assign <| g_v rfl r_assign <| g_nil <| d_then <| c_seq ?_
 refine c_seq <| c_region <| g_v rfl r_move <| g_nil <| d_then <| c_block <| c_seq ?_
 refine c_cut (ι := Bool) [6, 7] (fun b3 => [(7, .bool b3)]) (fun b3 => ⟨w0, M, H, R, φ⟩) (fun b3 => m_ref05_head_j1 p0 b3 = some r) ?_ (fun b3 u hm => ?_)
 ·
  refine c_seq <| c_region <| g_v rfl (r_eql rfl rfl) <| g_v rfl r_assign <| g_nil <| d_then ?_
  refine c_cond rfl (fun h7 => ?_) (fun h7 => ?_)
  ·
   replace hm := ite_t hm (of_decide_eq_true h7)
   refine c_skip ?_
   exact d_round (decide (p0 = 2)) hm Nat.zero_lt_one ⟨rfl, rfl, trivial⟩ (fun W h => h.phi (fun W hφ => hφ))
  ·
   replace hm := ite_f hm (of_decide_eq_false h7)
   refine c_seq <| c_region <| g_v rfl (r_eql rfl rfl) <| g_v rfl r_assign <| g_nil <| d_then ?_
   refine c_flat [(6, .int .u16 p0), (7, .bool (decide (p0 = 5)))] ⟨rfl, rfl, trivial⟩ (fun u => ?_)
   refine c_sta ⟨w0, M, H, R, φ⟩ (fun _ h => h) ?_
   refine c_cond rfl (fun h8 => ?_) (fun h8 => ?_)
   ·
    replace hm := ite_t hm (of_decide_eq_true h8)
    refine c_skip ?_
    exact d_round (decide (p0 = 5)) hm Nat.zero_lt_one ⟨rfl, rfl, trivial⟩ (fun W h => h.phi (fun W hφ => hφ))
   ·
    replace hm := ite_f hm (of_decide_eq_false h8)
    refine c_region <| g_v rfl (r_eql rfl rfl) <| g_v rfl r_assign <| g_nil ?_
    exact d_round (decide (p0 = 12)) hm Nat.zero_lt_one ⟨rfl, rfl, trivial⟩ (fun W h => h.phi (fun W hφ => hφ))
 ·
  unfold m_ref05_head_j1 at hm
  refine d_flat [(6, .int .u16 p0), (7, .bool b3)] ⟨rfl, rfl, trivial⟩ (fun u => ?_)
  refine d_sta ⟨w0, M, H, R, φ⟩ (fun _ h => h) <| d_then ?_
  refine c_cond rfl (fun h4 => ?_) (fun h4 => ?_)
  ·
   replace hm := ite_t hm h4
   refine c_seq <| c_region <| g_v rfl r_assign <| g_v rfl r_assign <| g_v rfl r_assign <| g_v rfl r_assign <| g_nil <| d_then <| c_ret <| d_ret_block ?_
   refine d_ret_then ?_
   replace hm := Option.some.inj hm
   subst hm
   refine d_retC () Try.results66 ?_ trivial (fun W h => ok_pre (H1 := []) (R1 := []) h (fun W hφ => hφ)) (.inr rfl)
   refine res_tmp <| res_tmp <| res_tmp <| res_tmp <| res_nil ?_
   exact rfl
  ·
   replace hm := ite_f hm (bool_nt h4)
   refine c_seq <| c_region <| g_v rfl (r_eql rfl rfl) <| g_v rfl r_assign <| g_nil <| d_then ?_
   refine c_cond rfl (fun h5 => ?_) (fun h5 => ?_)
   ·
    replace hm := ite_t hm (of_decide_eq_true h5)
    refine c_seq <| c_region <| g_v rfl r_assign <| g_v rfl r_assign <| g_v rfl r_assign <| g_v rfl r_assign <| g_nil <| d_then <| c_ret <| d_ret_block ?_
    refine d_ret_then ?_
    replace hm := Option.some.inj hm
    subst hm
    refine d_retC () Try.results66 ?_ trivial (fun W h => ok_pre (H1 := []) (R1 := []) h (fun W hφ => hφ)) (.inr rfl)
    refine res_tmp <| res_tmp <| res_tmp <| res_tmp <| res_nil ?_
    exact rfl
   ·
    replace hm := ite_f hm (of_decide_eq_false h5)
    refine c_seq <| c_region <| g_v rfl (r_eql rfl rfl) <| g_v rfl r_assign <| g_nil <| d_then ?_
    refine c_cond rfl (fun h6 => ?_) (fun h6 => ?_)
    ·
     replace hm := ite_t hm (of_decide_eq_true h6)
     refine c_seq <| c_region <| g_v rfl r_assign <| g_v rfl r_assign <| g_v rfl r_assign <| g_v rfl r_assign <| g_nil <| d_then <| c_ret <| d_ret_block ?_
     refine d_ret_then ?_
     replace hm := Option.some.inj hm
     subst hm
     refine d_retC () Try.results66 ?_ trivial (fun W h => ok_pre (H1 := []) (R1 := []) h (fun W hφ => hφ)) (.inr rfl)
     refine res_tmp <| res_tmp <| res_tmp <| res_tmp <| res_nil ?_
     exact rfl
    ·
     replace hm := ite_f hm (of_decide_eq_false h6)
     refine c_skip <| d_normal_block <| d_then <| c_seq <| c_region <| g_v rfl r_assign <| g_v rfl r_assign <| g_v rfl r_assign <| g_v rfl r_assign <| g_nil ?_
     refine d_then <| c_ret ?_
     replace hm := Option.some.inj hm
     subst hm
     refine d_retC () Try.results66 ?_ trivial (fun W h => ok_pre (H1 := []) (R1 := []) h (fun W hφ => hφ)) (.inr rfl)
     refine res_tmp <| res_tmp <| res_tmp <| res_tmp <| res_nil ?_
     exact rfl
noncomputable def m_ref05_first_j1 (p0 : ByteArray) (i13 : Int) : Option (ByteArray × ByteArray × Bool) :=
  if (p0.size : Int) ≤ i13 then
    some ((⟨#[]⟩ : ByteArray), (⟨#[]⟩ : ByteArray), false)
  else
    (scutHi p0 (w64 (i13 + 1))).bind fun s15 =>
    (m_ref03_Check s15).bind fun x16 =>
    if x16 ≠ 0 then
      some ((⟨#[]⟩ : ByteArray), (⟨#[]⟩ : ByteArray), false)
    else
      (scutHi p0 (w64 (i13 + 1))).bind fun s23 =>
      (scutLo p0 (w64 (i13 + 1))).bind fun s24 =>
      some (s23, s24, true)
noncomputable def m_ref05_first_s2 (p0 : ByteArray) (i30 : Int) : Option (Int ⊕ Int) :=
  if i30 < (p0.size : Int) then
    (sat_ p0 i30).bind fun b38 =>
    if b38 ≠ 0 then
      (sat_ p0 i30).bind fun b40 =>
      some (.inl (w64 ((w64 (i30 + 1)) + (w64 b40))))
    else
      some (.inr i30)
  else
    some (.inr i30)
noncomputable def m_ref05_first (p0 : ByteArray) : Option (ByteArray × ByteArray × Bool) :=
  (loop (fun s => m_ref05_first_s2 p0 s) 0).bind fun e => m_ref05_first_j1 p0 e
theorem c_ref05_first {w0 : World} {M : Nat → Prop} {H : List (Nat × Nat × Obj)} {R : List (Nat × Row)} {φ : World → Prop} (p0 : ByteArray) (r : ByteArray × ByteArray × Bool) (hm : m_ref05_first p0 = some r) :
    Cn Try.prog 104 #[.string p0] ⟨w0, M, H, R, φ⟩ (fun x : Unit => .tuple #[.string r.1, .string r.2.1, .bool r.2.2]) (fun x => True) (fun x => ⟨w0, M, H, R, φ⟩) := by
 unfold m_ref05_first at hm
 refine cn_intro (fn := Try.f104) (N := 43) Try.func104 rfl Try.ntmps104 rfl <| c_seq <| c_region <| g_v rfl r_assign <| g_v rfl r_assign <| g_v rfl r_assign <| g_nil <| d_then <| c_seq <| c_region ?_
 refine g_v rfl r_assign <| g_nil <| d_then <| c_seq ?_
 refine c_cut (ι := Int) [0, 5] (fun i13 => [(5, .int .i64 i13)]) (fun i13 => ⟨w0, M, H, R, φ⟩) (fun i13 => m_ref05_first_j1 p0 i13 = some r) ?_ (fun i13 u hm => ?_)
 ·
  refine c_block ?_
  replace hm := bnd hm
  obtain ⟨out2, hl2, hr2⟩ := hm
  obtain ⟨n36', hl2⟩ := loop_lp hl2
  refine c_loopU (ι := Nat × Int) [0, 5] (fun ⟨n36, i30⟩ => [(5, .int .i64 i30)]) (fun ⟨n36, i30⟩ => ⟨w0, M, H, R, φ⟩) (fun ⟨n36, i30⟩ => Lp (fun s => m_ref05_first_s2 p0 s) n36 i30 out2) (fun ⟨n36, i30⟩ => n36) (n36', 0) hl2 ⟨rfl, rfl, trivial⟩ (fun W h => h.phi (fun W hφ => hφ)) (fun ⟨n36, i30⟩ u hlp => ?_)
  obtain ⟨o2, hm, hnx2⟩ := lp_step hlp
  clear hlp
  replace hm : m_ref05_first_s2 p0 i30 = some o2 := hm
  unfold m_ref05_first_s2 at hm
  refine c_flat [(0, .string p0), (5, .int .i64 i30)] ⟨rfl, rfl, trivial⟩ (fun u => ?_)
  refine c_sta ⟨w0, M, H, R, φ⟩ (fun _ h => h) <| c_seq <| c_seq <| c_region <| g_v rfl r_move <| g_v rfl r_move <| g_v rfl (r_len Try.underlying9 rfl) <| g_v rfl (r_lss rfl rfl) <| g_v rfl r_move ?_
  refine g_if rfl rfl rfl rfl rfl (fun h37 => ?_) (fun h37 => ?_)
  ·
   replace hm := ite_t hm (of_decide_eq_true h37)
   refine g_v rfl r_move <| g_do rfl rfl rfl rfl rfl h37 <| g_v rfl r_move <| g_do rfl rfl rfl rfl rfl h37 ?_
   replace hm := bnd hm
   obtain ⟨b38, hb38, hm⟩ := hm
   refine g_v rfl (r_sat Try.underlying9 rfl rfl hb38) <| g_do rfl rfl rfl rfl rfl h37 <| g_v rfl (r_neq rfl rfl) <| g_v rfl (r_pick1 rfl h37) <| g_nil <| d_then ?_
   refine c_flat [(0, .string p0), (5, .int .i64 i30), (15, .bool (decide (b38 ≠ 0)))] ⟨rfl, rfl, rfl, trivial⟩ (fun u => ?_)
   refine c_cond rfl (fun h39 => ?_) (fun h39 => ?_)
   ·
    replace hm := ite_t hm (of_decide_eq_true h39)
    refine c_skip <| d_then <| c_block <| c_region <| g_v rfl r_move <| g_v rfl (r_add rfl rfl rfl) <| g_v rfl r_move <| g_v rfl r_move ?_
    replace hm := bnd hm
    obtain ⟨b40, hb40, hm⟩ := hm
    refine g_v rfl (r_sat Try.underlying9 rfl rfl hb40) <| g_v rfl (r_conv Try.underlying5 Try.underlying3 rfl rfl) <| g_v rfl (r_add rfl rfl rfl) <| g_v rfl r_assign <| g_nil <| d_normal_block ?_
    obtain ⟨n41, hn41, hlp⟩ := nx_inl hm hnx2
    exact d_round (n41, w64 ((w64 (i30 + 1)) + (w64 b40))) hlp hn41 ⟨rfl, rfl, trivial⟩ (fun W h => h.phi (fun W hφ => hφ))
   ·
    replace hm := ite_f hm (of_decide_eq_false h39)
    refine c_exit <| d_exit_then <| d_exit_then <| d_exit_block ?_
    replace hm := nx_out (C := (fun e => m_ref05_first_j1 p0 e = some r)) hm hnx2 hr2
    exact d_round i30 hm Nat.zero_lt_one ⟨rfl, rfl, trivial⟩ (fun W h => h.phi (fun W hφ => hφ))
  ·
   replace hm := ite_f hm (of_decide_eq_false h37)
   refine g_no rfl rfl rfl rfl rfl h37 <| g_no rfl rfl rfl rfl rfl h37 <| g_no rfl rfl rfl rfl rfl h37 <| g_v rfl (r_pick0 rfl h37) <| g_nil <| d_then <| c_cond0 rfl rfl <| c_exit <| d_exit_then <| d_exit_then ?_
   refine d_exit_block ?_
   replace hm := nx_out (C := (fun e => m_ref05_first_j1 p0 e = some r)) hm hnx2 hr2
   exact d_round i30 hm Nat.zero_lt_one ⟨rfl, rfl, trivial⟩ (fun W h => h.phi (fun W hφ => hφ))
 ·
  unfold m_ref05_first_j1 at hm
  refine d_flat [(0, .string p0), (5, .int .i64 i13)] ⟨rfl, rfl, trivial⟩ (fun u => ?_)
  refine d_sta ⟨w0, M, H, R, φ⟩ (fun _ h => h) <| d_then <| c_seq <| c_seq <| c_region <| g_v rfl r_move <| g_v rfl r_move <| g_v rfl (r_len Try.underlying9 rfl) <| g_v rfl (r_geq rfl rfl) <| g_v rfl r_move ?_
  refine g_if rfl rfl rfl rfl rfl (fun h14 => ?_) (fun h14 => ?_)
  ·
   replace hm := ite_f hm (of_decide_eq_false h14)
   refine g_v rfl r_move <| g_do rfl rfl rfl rfl rfl h14 <| g_v rfl r_move <| g_do rfl rfl rfl rfl rfl h14 <| g_v rfl (r_add rfl rfl rfl) <| g_do rfl rfl rfl rfl rfl h14 ?_
   replace hm := bnd hm
   obtain ⟨s15, hs15, hm⟩ := hm
   refine g_v rfl (r_scutHi Try.underlying9 rfl rfl hs15) <| g_do rfl rfl rfl rfl rfl h14 ?_
   replace hm := bnd hm
   obtain ⟨x16, hx17, hm⟩ := hm
   refine g_cn ⟨w0, M, _, _, φ⟩ (fun _ h => h) Try.call81 rfl rfl (c_ref03_Check s15 _ hx17) (fun _ _ => ?_)
   refine g_do rfl rfl rfl rfl rfl h14 <| g_v rfl (r_neq rfl rfl) <| g_v rfl (r_pick0 rfl h14) <| g_nil <| d_then ?_
   refine c_flat [(0, .string p0), (5, .int .i64 i13), (34, .bool (decide (x16 ≠ 0)))] ⟨rfl, rfl, rfl, trivial⟩ (fun u => ?_)
   refine c_cond rfl (fun h18 => ?_) (fun h18 => ?_)
   ·
    replace hm := ite_t hm (of_decide_eq_true h18)
    refine c_seq <| c_region <| g_v rfl r_assign <| g_v rfl r_assign <| g_v rfl r_assign <| g_nil <| d_then <| c_ret <| d_ret_then ?_
    replace hm := Option.some.inj hm
    subst hm
    refine d_retC () Try.results104 ?_ trivial (fun W h => ok_pre (H1 := []) (R1 := []) h (fun W hφ => hφ)) (.inr rfl)
    refine res_tmp <| res_tmp <| res_tmp <| res_nil ?_
    exact rfl
   ·
    replace hm := ite_f hm (of_decide_eq_false h18)
    refine c_skip <| d_then <| c_seq <| ga_start (n := 11) ⟨w0, M, H, R, φ⟩ [] #[false, false, false, false, false, false, false, false, false, false, false] (fun W h => h.phi (fun W hφ => hφ)) mixed rfl rfl <| ga_v (i := 0) (bz 11 1) rfl (by kernel_rfl) (fun _ _ _ _ h => h) rfl (r_move) <| ga_v (i := 1) (bz 11 3) rfl (by kernel_rfl) (fun _ _ _ _ h => h) rfl (r_move) <| ga_v (i := 2) (bz 11 7) rfl (by kernel_rfl) (fun _ _ _ _ h => h) rfl (r_add rfl rfl rfl) ?_
    replace hm := bnd hm
    obtain ⟨s23, hs23, hm⟩ := hm
    refine ga_v (i := 3) (bz 11 15) rfl (by kernel_rfl) (fun _ _ _ _ h => h) rfl (r_scutHi Try.underlying9 rfl rfl hs23) <| ga_v (i := 4) (bz 11 31) rfl (by kernel_rfl) (fun _ _ _ _ h => h) rfl (r_move) <| ga_v (i := 5) (bz 11 63) rfl (by kernel_rfl) (fun _ _ _ _ h => h) rfl (r_move) <| ga_v (i := 6) (bz 11 127) rfl (by kernel_rfl) (fun _ _ _ _ h => h) rfl (r_add rfl rfl rfl) ?_
    replace hm := bnd hm
    obtain ⟨s24, hs24, hm⟩ := hm
    refine ga_v (i := 7) (bz 11 255) rfl (by kernel_rfl) (fun _ _ _ _ h => h) rfl (r_scutLo Try.underlying9 rfl rfl hs24) <| ga_r (i := 8) (bz 11 511) rfl (by kernel_rfl) (by decide) rfl (r_assign) <| ga_r (i := 9) (bz 11 1023) rfl (by kernel_rfl) (by decide) rfl (r_assign) <| ga_r (i := 10) (bz 11 2047) rfl (by kernel_rfl) (by decide) rfl (r_assign) <| ga_done (by kernel_rfl) <| d_then ?_
    refine c_flat [(2, .string s23), (3, .string s24), (4, .bool true)] ⟨rfl, rfl, rfl, trivial⟩ (fun u => ?_)
    refine c_ret ?_
    replace hm := Option.some.inj hm
    subst hm
    refine d_retC () Try.results104 ?_ trivial (fun W h => ok_pre (H1 := []) (R1 := []) h (fun W hφ => hφ)) (.inr rfl)
    refine res_tmp <| res_tmp <| res_tmp <| res_nil ?_
    exact rfl
  ·
   replace hm := ite_t hm (of_decide_eq_true h14)
   refine g_no rfl rfl rfl rfl rfl h14 <| g_no rfl rfl rfl rfl rfl h14 <| g_no rfl rfl rfl rfl rfl h14 <| g_no rfl rfl rfl rfl rfl h14 <| g_no rfl rfl rfl rfl rfl h14 <| g_v rfl (r_pick1 rfl h14) <| g_nil <| d_then <| c_cond1 rfl rfl <| c_seq ?_
   refine c_region <| g_v rfl r_assign <| g_v rfl r_assign <| g_v rfl r_assign <| g_nil <| d_then ?_
   refine c_flat [(2, .string (⟨#[]⟩ : ByteArray)), (3, .string (⟨#[]⟩ : ByteArray)), (4, .bool false)] ⟨rfl, rfl, rfl, trivial⟩ (fun u => ?_)
   refine c_ret <| d_ret_then ?_
   replace hm := Option.some.inj hm
   subst hm
   refine d_retC () Try.results104 ?_ trivial (fun W h => ok_pre (H1 := []) (R1 := []) h (fun W hφ => hφ)) (.inr rfl)
   refine res_tmp <| res_tmp <| res_tmp <| res_nil ?_
   exact rfl
noncomputable def m_ref05_Names_j1 (p1 : ByteArray) (x1 : Int) (x3 : Int) (l99 : List ByteArray) (s102 : ByteArray) : Option (ByteArray × (List ByteArray) × ByteArray × Bool) :=
  (scutHi p1 x1).bind fun s103 =>
  some (s103, l99, s102, decide ((s102.size : Int) = x3))
noncomputable def m_ref05_Names_s2 (x2 : Int) (l120 : List ByteArray) (s123 : ByteArray) (i124 : Int) : Option (((List ByteArray) × ByteArray × Int) ⊕ (((List ByteArray) × ByteArray) ⊕ (ByteArray × (List ByteArray) × ByteArray × Bool))) :=
  if i124 < x2 then
    (m_ref05_first s123).bind fun (z147 : ByteArray × ByteArray × Bool) =>
    if z147.2.2 = true then
      (app 16 l120 [z147.1]).bind fun l150 =>
      some (.inl (l150, z147.2.1, w64 (i124 + 1)))
    else
      some (.inr (.inr ((⟨#[]⟩ : ByteArray), ([] : List ByteArray), (⟨#[]⟩ : ByteArray), false)))
  else
    some (.inr (.inl (l120, s123)))
noncomputable def m_ref05_Names (p0 : Int) (p1 : ByteArray) : Option (ByteArray × (List ByteArray) × ByteArray × Bool) :=
  (m_ref05_head p0).bind fun (z6 : Int × Int × Int × Bool) =>
  if z6.2.2.2 = true then
    if (p1.size : Int) < z6.1 then
      some ((⟨#[]⟩ : ByteArray), ([] : List ByteArray), (⟨#[]⟩ : ByteArray), false)
    else
      (scutLo p1 z6.1).bind fun s9 =>
      (loop (fun s => m_ref05_Names_s2 z6.2.1 s.1 s.2.1 s.2.2) (([] : List ByteArray), s9, 0)).bind fun e => Sum.elim (fun e => m_ref05_Names_j1 p1 z6.1 z6.2.2.1 e.1 e.2) (fun x => some x) e
  else
    some ((⟨#[]⟩ : ByteArray), ([] : List ByteArray), (⟨#[]⟩ : ByteArray), false)
theorem c_ref05_Names {w0 : World} {M : Nat → Prop} {H : List (Nat × Nat × Obj)} {R : List (Nat × Row)} {φ : World → Prop} (p0 : Int) (p1 : ByteArray) (r : ByteArray × (List ByteArray) × ByteArray × Bool) (hm : m_ref05_Names p0 p1 = some r) :
    Cn Try.prog 75 #[.int .u16 p0, .string p1] ⟨w0, M, H, R, φ⟩ (fun x : Option Addr × Nat => .tuple #[.string r.1, .slice x.1 r.2.1.length x.2, .string r.2.2.1, .bool r.2.2.2]) (fun x => r.2.1.length ≤ x.2) (fun x => ⟨w0, M, H, (2000, ⟨.slice x.1 r.2.1.length x.2, 9, 1, r.2.1.length, r.2.1.flatMap (fun x : ByteArray => [Value.string x])⟩) :: R, φ⟩) := by
 unfold m_ref05_Names at hm
 refine cn_intro (fn := Try.f75) (N := 63) Try.func75 rfl Try.ntmps75 rfl <| c_seq <| c_region <| g_v rfl r_assign <| g_v rfl r_assign <| g_v rfl r_assign <| g_v rfl r_assign <| g_nil <| d_then <| c_seq ?_
 refine c_region <| g_v rfl r_move ?_
 replace hm := bnd hm
 obtain ⟨⟨x1, x2, x3, x4⟩, hx5, hm⟩ := hm
 refine g_cn ⟨w0, M, _, _, φ⟩ (fun _ h => h) Try.call66 rfl rfl (c_ref05_head p0 _ hx5) (fun _ _ => ?_)
 refine g_v rfl r_move <| g_v rfl (r_extract rfl rfl) <| g_v rfl (r_extract rfl rfl) <| g_v rfl (r_extract rfl rfl) <| g_v rfl (r_extract rfl rfl) <| g_v rfl r_assign <| g_v rfl r_assign <| g_v rfl r_assign <| g_v rfl r_assign <| g_nil ?_
 refine d_then ?_
 refine c_flat [(1, .string p1), (8, .int .i64 x1), (9, .int .i64 x2), (10, .int .i64 x3), (11, .bool x4)] ⟨rfl, rfl, rfl, rfl, rfl, trivial⟩ (fun u => ?_)
 refine c_sta ⟨w0, M, H, R, φ⟩ (fun _ h => h) <| c_seq <| c_seq <| c_region <| g_v rfl r_move <| g_v rfl (r_not rfl) <| g_v rfl r_move ?_
 refine g_if rfl rfl rfl rfl rfl (fun h7 => ?_) (fun h7 => ?_)
 ·
  have h7' : x4 = true := by revert h7; cases x4 <;> simp
  replace hm := ite_t hm h7'
  refine g_v rfl r_move <| g_do rfl rfl rfl rfl rfl h7 <| g_v rfl (r_len Try.underlying9 rfl) <| g_do rfl rfl rfl rfl rfl h7 <| g_v rfl r_move <| g_do rfl rfl rfl rfl rfl h7 <| g_v rfl (r_lss rfl rfl) <| g_v rfl (r_pick0 rfl h7) <| g_nil <| d_then ?_
  refine c_cond rfl (fun h8 => ?_) (fun h8 => ?_)
  ·
   replace hm := ite_t hm (of_decide_eq_true h8)
   refine c_seq <| c_region <| g_v rfl r_assign <| g_v rfl r_assign <| g_v rfl r_assign <| g_v rfl r_assign <| g_nil <| d_then ?_
   refine c_flat [(4, .string (⟨#[]⟩ : ByteArray)), (5, .slice none 0 0), (6, .string (⟨#[]⟩ : ByteArray)), (7, .bool false)] ⟨rfl, rfl, rfl, rfl, trivial⟩ (fun u => ?_)
   refine c_ret <| d_ret_then ?_
   replace hm := Option.some.inj hm
   subst hm
   refine d_sta _ (fun W h => nilR h 11 9 1) <| d_sta _ (fun W h => ok_frontR (t := 11) (t' := 2000) h rfl) ?_
   refine d_retC (none, 0) Try.results75 ?_ (Nat.le_refl 0) (fun W h => h.phi (fun W hφ => hφ)) (.inr rfl)
   refine res_tmp <| res_tmp <| res_tmp <| res_tmp <| res_nil ?_
   exact rfl
  ·
   replace hm := ite_f hm (of_decide_eq_false h8)
   refine c_skip <| d_then <| c_seq <| c_region <| g_v rfl r_move <| g_v rfl r_move ?_
   replace hm := bnd hm
   obtain ⟨s9, hs9, hm⟩ := hm
   refine g_v rfl (r_scutLo Try.underlying9 rfl rfl hs9) <| g_v rfl r_assign <| g_nil <| d_then ?_
   refine c_flat [(1, .string p1), (8, .int .i64 x1), (9, .int .i64 x2), (10, .int .i64 x3), (12, .string s9)] ⟨rfl, rfl, rfl, rfl, rfl, trivial⟩ (fun u => ?_)
   refine c_seq <| c_region <| g_v rfl r_assign <| g_nil <| d_then <| c_seq <| c_seq <| c_region <| g_v rfl r_assign <| g_nil ?_
   refine d_then <| c_sta _ (fun W h => nilR h 17 9 1) ?_
   refine c_cut (ι := (List ByteArray) × ByteArray × Option Addr × Nat) [1, 8, 10, 12, 13] (fun ⟨l99, s102, A100, c101⟩ => [(12, .string s102), (13, .slice A100 l99.length c101)]) (fun ⟨l99, s102, A100, c101⟩ => ⟨w0, M, H, (17, ⟨.slice A100 l99.length c101, 9, 1, l99.length, l99.flatMap (fun x : ByteArray => [Value.string x])⟩) :: R, φ⟩) (fun ⟨l99, s102, A100, c101⟩ => m_ref05_Names_j1 p1 x1 x3 l99 s102 = some r ∧ l99.length ≤ c101) ?_ (fun ⟨l99, s102, A100, c101⟩ u ⟨hm, hc101⟩ => ?_)
   ·
    refine c_block ?_
    replace hm := bnd hm
    obtain ⟨out2, hl2, hr2⟩ := hm
    obtain ⟨n141', hl2⟩ := loop_lp hl2
    refine c_loopU (ι := Nat × (List ByteArray) × ByteArray × Int × Option Addr × Nat) [1, 8, 9, 10, 12, 13, 14] (fun ⟨n141, l120, s123, i124, A121, c122⟩ => [(12, .string s123), (13, .slice A121 l120.length c122), (14, .int .i64 i124)]) (fun ⟨n141, l120, s123, i124, A121, c122⟩ => ⟨w0, M, H, (17, ⟨.slice A121 l120.length c122, 9, 1, l120.length, l120.flatMap (fun x : ByteArray => [Value.string x])⟩) :: R, φ⟩) (fun ⟨n141, l120, s123, i124, A121, c122⟩ => Lp (fun s => m_ref05_Names_s2 x2 s.1 s.2.1 s.2.2) n141 (l120, s123, i124) out2 ∧ l120.length ≤ c122) (fun ⟨n141, l120, s123, i124, A121, c122⟩ => n141) (n141', ([] : List ByteArray), s9, 0, none, 0) ⟨hl2, (Nat.le_refl 0)⟩ ⟨rfl, rfl, rfl, rfl, rfl, rfl, rfl, trivial⟩ (fun W h => h.phi (fun W hφ => hφ)) (fun ⟨n141, l120, s123, i124, A121, c122⟩ u ⟨hlp, hc122⟩ => ?_)
    obtain ⟨o2, hm, hnx2⟩ := lp_step hlp
    clear hlp
    replace hm : m_ref05_Names_s2 x2 l120 s123 i124 = some o2 := hm
    unfold m_ref05_Names_s2 at hm
    refine c_flat [(1, .string p1), (8, .int .i64 x1), (9, .int .i64 x2), (10, .int .i64 x3), (12, .string s123), (13, .slice A121 l120.length c122), (14, .int .i64 i124)] ⟨rfl, rfl, rfl, rfl, rfl, rfl, rfl, trivial⟩ (fun u => ?_)
    refine c_sta ⟨w0, M, H, (17, ⟨.slice A121 l120.length c122, 9, 1, l120.length, l120.flatMap (fun x : ByteArray => [Value.string x])⟩) :: R, φ⟩ (fun _ h => h) <| c_seq <| c_seq <| c_region <| g_v rfl r_move <| g_v rfl r_move <| g_v rfl (r_lss rfl rfl) <| g_nil <| d_then ?_
    refine c_cond rfl (fun h142 => ?_) (fun h142 => ?_)
    ·
     replace hm := ite_t hm (of_decide_eq_true h142)
     refine c_skip <| d_then <| c_seq <| c_block <| c_seq <| c_region <| g_v rfl r_move ?_
     replace hm := bnd hm
     obtain ⟨⟨x143, x144, x145⟩, hx146, hm⟩ := hm
     refine g_cn ⟨w0, M, _, _, φ⟩ (fun _ h => h) Try.call104 rfl rfl (c_ref05_first s123 _ hx146) (fun _ _ => ?_)
     refine g_v rfl r_move <| g_v rfl (r_extract rfl rfl) <| g_v rfl (r_extract rfl rfl) <| g_v rfl (r_extract rfl rfl) <| g_v rfl r_assign <| g_v rfl r_assign <| g_v rfl r_assign <| g_nil <| d_then ?_
     refine c_flat [(1, .string p1), (8, .int .i64 x1), (9, .int .i64 x2), (10, .int .i64 x3), (13, .slice A121 l120.length c122), (14, .int .i64 i124), (15, .string x143), (16, .string x144), (17, .bool x145)] ⟨rfl, rfl, rfl, rfl, rfl, rfl, rfl, rfl, rfl, trivial⟩ (fun u => ?_)
     refine c_seq <| c_seq <| c_region <| g_v rfl r_move <| g_v rfl (r_not rfl) <| g_nil <| d_then ?_
     refine c_cond rfl (fun h148 => ?_) (fun h148 => ?_)
     ·
      have h148' : x145 = false := by revert h148; cases x145 <;> simp
      replace hm := ite_f hm (bool_nt h148')
      refine c_seq <| c_region <| g_v rfl r_assign <| g_v rfl r_assign <| g_v rfl r_assign <| g_v rfl r_assign <| g_nil <| d_then <| c_ret <| d_ret_then ?_
      refine d_ret_block <| d_ret_then <| d_ret_then <| d_ret_block <| d_ret_then <| d_ret_then ?_
      replace hm := nx_out (C := (fun e => Sum.elim (fun e => m_ref05_Names_j1 p1 x1 x3 e.1 e.2) (fun x => some x) e = some r)) hm hnx2 hr2
      replace hm : some ((⟨#[]⟩ : ByteArray), ([] : List ByteArray), (⟨#[]⟩ : ByteArray), false) = some r := hm
      replace hm := Option.some.inj hm
      subst hm
      refine d_sta _ (fun W h => nilR h 22 9 1) <| d_sta _ (fun W h => ok_frontR (t := 22) (t' := 2000) h rfl) ?_
      refine d_retC (none, 0) Try.results75 ?_ (Nat.le_refl 0) (fun W h => (h.dropR (t := 17) rfl).phi (fun W hφ => hφ)) (.inr rfl)
      refine res_tmp <| res_tmp <| res_tmp <| res_tmp <| res_nil ?_
      exact rfl
     ·
      have h148' : x145 = true := by revert h148; cases x145 <;> simp
      replace hm := ite_t hm h148'
      refine c_skip <| d_then <| c_seq <| c_region <| g_v rfl r_move <| g_v rfl r_move ?_
      refine g_e rfl (e_lit (tag := 100510) (l := [x143]) (enc := (fun x : ByteArray => [Value.string x])) (sz := 1) rfl Try.underlying105 (lit9_7 _) rfl rfl (fun _ => rfl)) (fun g149 _ => ?_)
      replace hm := bnd hm
      obtain ⟨l150, hl150, hm⟩ := hm
      refine g_e rfl (e_appR (enc := (fun x : ByteArray => [Value.string x])) (l := l120) (l1 := [x143]) (l2 := l150) (tag := 17) Try.underlying105 inf9_8 rfl (by decide) (by decide) (fun _ => rfl) (fun _ => rfl) rfl hc122 rfl rfl (fun W hS => rowCl (tag := 100510) rfl W hS) hl150) (fun ⟨A151, c152⟩ hc152 => ?_)
      refine g_v rfl r_assign <| g_nil <| d_then <| c_region <| g_v rfl r_move <| g_v rfl r_assign <| g_nil <| d_normal_block <| d_then ?_
      refine c_flat [(1, .string p1), (8, .int .i64 x1), (9, .int .i64 x2), (10, .int .i64 x3), (12, .string x144), (13, .slice A151 l150.length c152), (14, .int .i64 i124)] ⟨rfl, rfl, rfl, rfl, rfl, rfl, rfl, trivial⟩ (fun u => ?_)
      refine c_sta ⟨w0, M, H, (100510, ⟨.slice (some ⟨g149, 0, none⟩) [x143].length 1, 9, 1, [x143].length, [x143].flatMap (fun x : ByteArray => [Value.string x])⟩) :: (17, ⟨.slice A151 l150.length c152, 9, 1, l150.length, l150.flatMap (fun x : ByteArray => [Value.string x])⟩) :: R, φ⟩ (fun _ h => h) <| c_region <| g_v rfl r_move <| g_v rfl (r_add rfl rfl rfl) <| g_v rfl r_assign <| g_nil ?_
      obtain ⟨n153, hn153, hlp⟩ := nx_inl hm hnx2
      exact d_round (n153, l150, x144, w64 (i124 + 1), A151, c152) ⟨hlp, hc152⟩ hn153 ⟨rfl, rfl, rfl, rfl, rfl, rfl, rfl, trivial⟩ (fun W h => (h.dropR (t := 100510) rfl).phi (fun W hφ => hφ))
    ·
     replace hm := ite_f hm (of_decide_eq_false h142)
     refine c_exit <| d_exit_then <| d_exit_then <| d_exit_block ?_
     replace hm := nx_out (C := (fun e => Sum.elim (fun e => m_ref05_Names_j1 p1 x1 x3 e.1 e.2) (fun x => some x) e = some r)) hm hnx2 hr2
     exact d_round (l120, s123, A121, c122) ⟨hm, hc122⟩ Nat.zero_lt_one ⟨rfl, rfl, rfl, rfl, rfl, trivial⟩ (fun W h => h.phi (fun W hφ => hφ))
   ·
    unfold m_ref05_Names_j1 at hm
    refine d_flat [(1, .string p1), (8, .int .i64 x1), (10, .int .i64 x3), (12, .string s102), (13, .slice A100 l99.length c101)] ⟨rfl, rfl, rfl, rfl, rfl, trivial⟩ (fun u => ?_)
    refine d_sta ⟨w0, M, H, (17, ⟨.slice A100 l99.length c101, 9, 1, l99.length, l99.flatMap (fun x : ByteArray => [Value.string x])⟩) :: R, φ⟩ (fun _ h => h) <| d_then <| c_seq <| c_region <| g_v rfl r_move <| g_v rfl r_move ?_
    replace hm := bnd hm
    obtain ⟨s103, hs103, hm⟩ := hm
    refine g_v rfl (r_scutHi Try.underlying9 rfl rfl hs103) <| g_v rfl r_move <| g_v rfl r_move <| g_v rfl r_move <| g_v rfl (r_len Try.underlying9 rfl) <| g_v rfl r_move <| g_v rfl (r_eql rfl rfl) <| g_v rfl r_assign <| g_v rfl r_assign <| g_v rfl r_assign ?_
    refine g_v rfl r_assign <| g_nil <| d_then ?_
    refine c_flat [(4, .string s103), (5, .slice A100 l99.length c101), (6, .string s102), (7, .bool (decide ((s102.size : Int) = x3)))] ⟨rfl, rfl, rfl, rfl, trivial⟩ (fun u => ?_)
    refine c_ret ?_
    replace hm := Option.some.inj hm
    subst hm
    refine d_sta _ (fun W h => ok_frontR (t := 17) (t' := 2000) h rfl) ?_
    refine d_retC (A100, c101) Try.results75 ?_ hc101 (fun W h => h.phi (fun W hφ => hφ)) (.inr rfl)
    refine res_tmp <| res_tmp <| res_tmp <| res_tmp <| res_nil ?_
    exact rfl
 ·
  have h7' : x4 = false := by revert h7; cases x4 <;> simp
  replace hm := ite_f hm (bool_nt h7')
  refine g_no rfl rfl rfl rfl rfl h7 <| g_no rfl rfl rfl rfl rfl h7 <| g_no rfl rfl rfl rfl rfl h7 <| g_v rfl (r_pick1 rfl h7) <| g_nil <| d_then <| c_cond1 rfl rfl <| c_seq <| c_region <| g_v rfl r_assign ?_
  refine g_v rfl r_assign <| g_v rfl r_assign <| g_v rfl r_assign <| g_nil <| d_then <| c_ret <| d_ret_then ?_
  replace hm := Option.some.inj hm
  subst hm
  refine d_sta _ (fun W h => nilR h 23 9 1) <| d_sta _ (fun W h => ok_frontR (t := 23) (t' := 2000) h rfl) ?_
  refine d_retC (none, 0) Try.results75 ?_ (Nat.le_refl 0) (fun W h => h.phi (fun W hφ => hφ)) (.inr rfl)
  refine res_tmp <| res_tmp <| res_tmp <| res_tmp <| res_nil ?_
  exact rfl
noncomputable def m_ref05_Right_j1 (p1 : ByteArray) (i28 : Int) : Option Bool :=
  if i28 = (p1.size : Int) then
    some (decide (0 < i28))
  else
    some false
noncomputable def m_ref05_Right_s2 (p1 : ByteArray) (i33 : Int) : Option (Int ⊕ Int) :=
  if i33 < (p1.size : Int) then
    (sat_ p1 i33).bind fun b39 =>
    some (.inl (w64 ((w64 (i33 + 1)) + (w64 b39))))
  else
    some (.inr i33)
noncomputable def m_ref05_Right (p0 : Int) (p1 : ByteArray) : Option Bool :=
  (m_ref05_head p0).bind fun (z6 : Int × Int × Int × Bool) =>
  if z6.2.2.2 = true then
    (m_ref05_Names p0 p1).bind fun (z16 : ByteArray × (List ByteArray) × ByteArray × Bool) =>
    some z16.2.2.2
  else
    if p0 = 1 then
      some (decide ((p1.size : Int) = 4))
    else
      if p0 = 28 then
        some (decide ((p1.size : Int) = 16))
      else
        if p0 = 16 then
          (loop (fun s => m_ref05_Right_s2 p1 s) 0).bind fun e => m_ref05_Right_j1 p1 e
        else
          some true
theorem c_ref05_Right {w0 : World} {M : Nat → Prop} {H : List (Nat × Nat × Obj)} {R : List (Nat × Row)} {φ : World → Prop} (p0 : Int) (p1 : ByteArray) (r : Bool) (hm : m_ref05_Right p0 p1 = some r) :
    Cn Try.prog 82 #[.int .u16 p0, .string p1] ⟨w0, M, H, R, φ⟩ (fun x : Unit => .bool r) (fun x => True) (fun x => ⟨w0, M, H, R, φ⟩) := by
 unfold m_ref05_Right at hm
 refine cn_intro (fn := Try.f82) (N := 63) Try.func82 rfl Try.ntmps82 rfl <| c_seq <| c_region <| g_v rfl r_assign <| g_nil <| d_then <| c_seq <| c_region <| g_v rfl r_move ?_
 replace hm := bnd hm
 obtain ⟨⟨x1, x2, x3, x4⟩, hx5, hm⟩ := hm
 refine g_cn ⟨w0, M, _, _, φ⟩ (fun _ h => h) Try.call66 rfl rfl (c_ref05_head p0 _ hx5) (fun _ _ => ?_)
 refine g_v rfl r_move <| g_v rfl (r_extract rfl rfl) <| g_v rfl (r_extract rfl rfl) <| g_v rfl (r_extract rfl rfl) <| g_v rfl (r_extract rfl rfl) <| g_v rfl r_assign <| g_v rfl r_assign <| g_v rfl r_assign <| g_v rfl r_assign <| g_nil ?_
 refine d_then ?_
 refine c_flat [(0, .int .u16 p0), (1, .string p1), (8, .bool x4)] ⟨rfl, rfl, rfl, trivial⟩ (fun u => ?_)
 refine c_sta ⟨w0, M, H, R, φ⟩ (fun _ h => h) <| c_seq <| c_seq <| c_region <| g_v rfl r_move <| g_nil <| d_then ?_
 refine c_cond rfl (fun h7 => ?_) (fun h7 => ?_)
 ·
  replace hm := ite_t hm h7
  refine c_seq <| c_region <| g_v rfl r_move <| g_v rfl r_move ?_
  replace hm := bnd hm
  obtain ⟨⟨x8, x9, x10, x11⟩, hx12, hm⟩ := hm
  refine g_cn ⟨w0, M, _, _, φ⟩ (fun _ h => h) Try.call75 rfl rfl (c_ref05_Names p0 p1 _ hx12) (fun ⟨A13, c14⟩ hc14 => ?_)
  refine g_sta _ (fun W h => (ok_frontR (t := 2000) (t' := 100250) h rfl)) <| g_v rfl r_move <| g_v rfl (r_extract rfl rfl) <| g_v rfl (r_extract rfl rfl) <| g_v rfl (r_extract rfl rfl) <| g_v rfl (r_extract rfl rfl) <| g_v rfl r_assign <| g_v rfl r_assign <| g_v rfl r_assign <| g_v rfl r_assign ?_
  refine g_nil <| d_then ?_
  refine c_flat [(12, .bool x11)] ⟨rfl, trivial⟩ (fun u => ?_)
  refine c_sta ⟨w0, M, H, (100250, ⟨.slice A13 x9.length c14, 9, 1, x9.length, x9.flatMap (fun x : ByteArray => [Value.string x])⟩) :: R, φ⟩ (fun _ h => h) <| c_seq <| c_region <| g_v rfl r_move <| g_v rfl r_assign <| g_nil <| d_then <| c_ret <| d_ret_then ?_
  replace hm := Option.some.inj hm
  subst hm
  refine d_retC () Try.results82 ?_ trivial (fun W h => ok_pre (H1 := []) (R1 := [_]) h (fun W hφ => hφ)) (.inr rfl)
  refine res_tmp <| res_nil ?_
  exact rfl
 ·
  replace hm := ite_f hm (bool_nt h7)
  refine c_skip <| d_then <| c_seq <| c_seq <| c_region <| g_v rfl r_move <| g_nil <| d_then <| c_block <| c_seq ?_
  refine c_region <| g_v rfl (r_eql rfl rfl) <| g_v rfl r_assign <| g_nil <| d_then ?_
  refine c_cond rfl (fun h17 => ?_) (fun h17 => ?_)
  ·
   replace hm := ite_t hm (of_decide_eq_true h17)
   refine c_seq <| c_region <| g_v rfl r_move <| g_v rfl (r_len Try.underlying9 rfl) <| g_v rfl (r_eql rfl rfl) <| g_v rfl r_assign <| g_nil <| d_then <| c_ret <| d_ret_block ?_
   refine d_ret_then ?_
   replace hm := Option.some.inj hm
   subst hm
   refine d_retC () Try.results82 ?_ trivial (fun W h => ok_pre (H1 := []) (R1 := []) h (fun W hφ => hφ)) (.inr rfl)
   refine res_tmp <| res_nil ?_
   exact rfl
  ·
   replace hm := ite_f hm (of_decide_eq_false h17)
   refine c_seq <| c_region <| g_v rfl (r_eql rfl rfl) <| g_v rfl r_assign <| g_nil <| d_then ?_
   refine c_cond rfl (fun h18 => ?_) (fun h18 => ?_)
   ·
    replace hm := ite_t hm (of_decide_eq_true h18)
    refine c_seq <| c_region <| g_v rfl r_move <| g_v rfl (r_len Try.underlying9 rfl) <| g_v rfl (r_eql rfl rfl) <| g_v rfl r_assign <| g_nil <| d_then ?_
    refine c_flat [(4, .bool (decide ((p1.size : Int) = 16)))] ⟨rfl, trivial⟩ (fun u => ?_)
    refine c_ret <| d_ret_block <| d_ret_then ?_
    replace hm := Option.some.inj hm
    subst hm
    refine d_retC () Try.results82 ?_ trivial (fun W h => ok_pre (H1 := []) (R1 := []) h (fun W hφ => hφ)) (.inr rfl)
    refine res_tmp <| res_nil ?_
    exact rfl
   ·
    replace hm := ite_f hm (of_decide_eq_false h18)
    refine c_seq <| c_region <| g_v rfl (r_eql rfl rfl) <| g_v rfl r_assign <| g_nil <| d_then ?_
    refine c_cond rfl (fun h19 => ?_) (fun h19 => ?_)
    ·
     replace hm := ite_t hm (of_decide_eq_true h19)
     refine c_seq <| c_region <| g_v rfl r_assign <| g_nil <| d_then ?_
     refine c_flat [(1, .string p1), (13, .int .i64 0)] ⟨rfl, rfl, trivial⟩ (fun u => ?_)
     refine c_seq ?_
     refine c_cut (ι := Int) [1, 13] (fun i28 => [(13, .int .i64 i28)]) (fun i28 => ⟨w0, M, H, R, φ⟩) (fun i28 => m_ref05_Right_j1 p1 i28 = some r) ?_ (fun i28 u hm => ?_)
     ·
      refine c_block ?_
      replace hm := bnd hm
      obtain ⟨out2, hl2, hr2⟩ := hm
      obtain ⟨n37', hl2⟩ := loop_lp hl2
      refine c_loopU (ι := Nat × Int) [1, 13] (fun ⟨n37, i33⟩ => [(13, .int .i64 i33)]) (fun ⟨n37, i33⟩ => ⟨w0, M, H, R, φ⟩) (fun ⟨n37, i33⟩ => Lp (fun s => m_ref05_Right_s2 p1 s) n37 i33 out2) (fun ⟨n37, i33⟩ => n37) (n37', 0) hl2 ⟨rfl, rfl, trivial⟩ (fun W h => h.phi (fun W hφ => hφ)) (fun ⟨n37, i33⟩ u hlp => ?_)
      obtain ⟨o2, hm, hnx2⟩ := lp_step hlp
      clear hlp
      replace hm : m_ref05_Right_s2 p1 i33 = some o2 := hm
      unfold m_ref05_Right_s2 at hm
      refine c_flat [(1, .string p1), (13, .int .i64 i33)] ⟨rfl, rfl, trivial⟩ (fun u => ?_)
      refine c_seq <| c_seq <| c_region <| g_v rfl r_move <| g_v rfl r_move <| g_v rfl (r_len Try.underlying9 rfl) <| g_v rfl (r_lss rfl rfl) <| g_nil <| d_then ?_
      refine c_cond rfl (fun h38 => ?_) (fun h38 => ?_)
      ·
       replace hm := ite_t hm (of_decide_eq_true h38)
       refine c_skip <| d_then <| c_block <| c_region <| g_v rfl r_move <| g_v rfl (r_add rfl rfl rfl) <| g_v rfl r_move <| g_v rfl r_move ?_
       replace hm := bnd hm
       obtain ⟨b39, hb39, hm⟩ := hm
       refine g_v rfl (r_sat Try.underlying9 rfl rfl hb39) <| g_v rfl (r_conv Try.underlying5 Try.underlying3 rfl rfl) <| g_v rfl (r_add rfl rfl rfl) <| g_v rfl r_assign <| g_nil <| d_normal_block ?_
       obtain ⟨n40, hn40, hlp⟩ := nx_inl hm hnx2
       exact d_round (n40, w64 ((w64 (i33 + 1)) + (w64 b39))) hlp hn40 ⟨rfl, rfl, trivial⟩ (fun W h => h.phi (fun W hφ => hφ))
      ·
       replace hm := ite_f hm (of_decide_eq_false h38)
       refine c_exit <| d_exit_then <| d_exit_then <| d_exit_block ?_
       replace hm := nx_out (C := (fun e => m_ref05_Right_j1 p1 e = some r)) hm hnx2 hr2
       exact d_round i33 hm Nat.zero_lt_one ⟨rfl, rfl, trivial⟩ (fun W h => h.phi (fun W hφ => hφ))
     ·
      unfold m_ref05_Right_j1 at hm
      refine d_flat [(1, .string p1), (13, .int .i64 i28)] ⟨rfl, rfl, trivial⟩ (fun u => ?_)
      refine d_then <| c_seq <| c_region <| g_v rfl r_move <| g_v rfl r_move <| g_v rfl (r_len Try.underlying9 rfl) <| g_v rfl (r_eql rfl rfl) <| g_v rfl r_move ?_
      refine g_if rfl rfl rfl rfl rfl (fun h29 => ?_) (fun h29 => ?_)
      ·
       replace hm := ite_t hm (of_decide_eq_true h29)
       refine g_v rfl r_move <| g_do rfl rfl rfl rfl rfl h29 <| g_v rfl (r_gtr rfl rfl) <| g_v rfl (r_pick1 rfl h29) <| g_v rfl r_assign <| g_nil <| d_then ?_
       refine c_flat [(4, .bool (decide (0 < i28)))] ⟨rfl, trivial⟩ (fun u => ?_)
       refine c_ret <| d_ret_block <| d_ret_then ?_
       replace hm := Option.some.inj hm
       subst hm
       refine d_retC () Try.results82 ?_ trivial (fun W h => ok_pre (H1 := []) (R1 := []) h (fun W hφ => hφ)) (.inr rfl)
       refine res_tmp <| res_nil ?_
       exact rfl
      ·
       replace hm := ite_f hm (of_decide_eq_false h29)
       refine g_no rfl rfl rfl rfl rfl h29 <| g_v rfl (r_pick0 rfl h29) <| g_v rfl r_assign <| g_nil <| d_then <| c_ret <| d_ret_block <| d_ret_then ?_
       replace hm := Option.some.inj hm
       subst hm
       refine d_retC () Try.results82 ?_ trivial (fun W h => ok_pre (H1 := []) (R1 := []) h (fun W hφ => hφ)) (.inr rfl)
       refine res_tmp <| res_nil ?_
       exact rfl
    ·
     replace hm := ite_f hm (of_decide_eq_false h19)
     refine c_skip <| d_normal_block <| d_then <| c_seq <| c_region <| g_v rfl r_assign <| g_nil <| d_then ?_
     refine c_flat [(4, .bool true)] ⟨rfl, trivial⟩ (fun u => ?_)
     refine c_ret ?_
     replace hm := Option.some.inj hm
     subst hm
     refine d_retC () Try.results82 ?_ trivial (fun W h => ok_pre (H1 := []) (R1 := []) h (fun W hφ => hφ)) (.inr rfl)
     refine res_tmp <| res_nil ?_
     exact rfl
noncomputable def m_ref05_Check (p0 : GRR) : Option Int :=
  (m_ref03_Check p0.fName).bind fun x2 =>
  if x2 ≠ 0 then
    some x2
  else
    if 2000 < (p0.fData.size : Int) then
      some 11
    else
      (m_ref05_Right p0.fType p0.fData).bind fun x6 =>
      if x6 = true then
        some 0
      else
        some 10
theorem c_ref05_Check {w0 : World} {M : Nat → Prop} {H : List (Nat × Nat × Obj)} {R : List (Nat × Row)} {φ : World → Prop} (p0 : GRR) (r : Int) (hm : m_ref05_Check p0 = some r) :
    Cn Try.prog 32 #[.agg #[.string p0.fName, .int .u16 p0.fType, .int .u16 p0.fClass, .int .u32 p0.fTTL, .string p0.fData]] ⟨w0, M, H, R, φ⟩ (fun x : Unit => .int .i64 r) (fun x => True) (fun x => ⟨w0, M, H, R, φ⟩) := by
 unfold m_ref05_Check at hm
 refine cn_intro (fn := Try.f32) (N := 22) Try.func32 rfl Try.ntmps32 rfl <| c_seq <| c_region ?_
 refine g_e rfl (e_box 100010 rfl) (fun g1 _ => ?_)
 refine g_v rfl r_assign <| g_nil <| d_then <| c_seq <| c_region <| g_v rfl (r_field (n := 0) Try.underlying27 rfl Try.sizeOf9 rfl rfl) <| g_v rfl (r_load (tag := 100010) rfl rfl rfl Try.isAgg9) ?_
 replace hm := bnd hm
 obtain ⟨x2, hx3, hm⟩ := hm
 refine g_cn ⟨w0, M, _, _, φ⟩ (fun _ h => h) Try.call81 rfl rfl (c_ref03_Check p0.fName _ hx3) (fun _ _ => ?_)
 refine g_v rfl r_assign <| g_nil <| d_then <| c_seq <| c_seq <| c_region <| g_v rfl r_move <| g_v rfl (r_neq rfl rfl) <| g_nil <| d_then ?_
 refine c_cond rfl (fun h4 => ?_) (fun h4 => ?_)
 ·
  replace hm := ite_t hm (of_decide_eq_true h4)
  refine c_seq <| c_region <| g_v rfl r_move <| g_v rfl r_assign <| g_nil <| d_then ?_
  refine c_flat [(2, .int .i64 x2)] ⟨rfl, trivial⟩ (fun u => ?_)
  refine c_sta ⟨w0, M, (100010, g1, .cells #[.string p0.fName, .int .u16 p0.fType, .int .u16 p0.fClass, .int .u32 p0.fTTL, .string p0.fData] 27 (0, 0)) :: H, R, φ⟩ (fun _ h => h) <| c_ret <| d_ret_then ?_
  replace hm := Option.some.inj hm
  subst hm
  refine d_retC () Try.results32 ?_ trivial (fun W h => ok_pre (H1 := [_]) (R1 := []) h (fun W hφ => hφ)) (.inr rfl)
  refine res_tmp <| res_nil ?_
  exact rfl
 ·
  replace hm := ite_f hm (of_decide_eq_false h4)
  refine c_skip <| d_then <| c_seq <| c_seq <| c_region <| g_v rfl (r_field (n := 4) Try.underlying27 rfl Try.sizeOf9 rfl rfl) <| g_v rfl (r_load (tag := 100010) rfl rfl rfl Try.isAgg9) <| g_v rfl (r_len Try.underlying9 rfl) <| g_v rfl (r_gtr rfl rfl) <| g_nil ?_
  refine d_then ?_
  refine c_flat [(1, .pointer (some ⟨g1, 0, none⟩)), (14, .bool (decide (2000 < (p0.fData.size : Int))))] ⟨rfl, rfl, trivial⟩ (fun u => ?_)
  refine c_sta ⟨w0, M, (100010, g1, .cells #[.string p0.fName, .int .u16 p0.fType, .int .u16 p0.fClass, .int .u32 p0.fTTL, .string p0.fData] 27 (0, 0)) :: H, R, φ⟩ (fun _ h => h) ?_
  refine c_cond rfl (fun h5 => ?_) (fun h5 => ?_)
  ·
   replace hm := ite_t hm (of_decide_eq_true h5)
   refine c_seq <| c_region <| g_v rfl r_assign <| g_nil <| d_then <| c_ret <| d_ret_then ?_
   replace hm := Option.some.inj hm
   subst hm
   refine d_retC () Try.results32 ?_ trivial (fun W h => ok_pre (H1 := [_]) (R1 := []) h (fun W hφ => hφ)) (.inr rfl)
   refine res_tmp <| res_nil ?_
   exact rfl
  ·
   replace hm := ite_f hm (of_decide_eq_false h5)
   refine c_skip <| d_then <| c_seq <| c_region <| g_v rfl (r_field (n := 1) Try.underlying27 rfl Try.sizeOf24 rfl rfl) <| g_v rfl (r_load (tag := 100010) rfl rfl rfl Try.isAgg24) <| g_v rfl (r_field (n := 4) Try.underlying27 rfl Try.sizeOf9 rfl rfl) <| g_v rfl (r_load (tag := 100010) rfl rfl rfl Try.isAgg9) ?_
   replace hm := bnd hm
   obtain ⟨x6, hx7, hm⟩ := hm
   refine g_cn ⟨w0, M, _, _, φ⟩ (fun _ h => h) Try.call82 rfl rfl (c_ref05_Right p0.fType p0.fData _ hx7) (fun _ _ => ?_)
   refine g_v rfl r_assign <| g_nil <| d_then <| c_seq <| c_seq <| c_region <| g_v rfl r_move <| g_v rfl (r_not rfl) <| g_nil <| d_then ?_
   refine c_cond rfl (fun h8 => ?_) (fun h8 => ?_)
   ·
    have h8' : x6 = false := by revert h8; cases x6 <;> simp
    replace hm := ite_f hm (bool_nt h8')
    refine c_seq <| c_region <| g_v rfl r_assign <| g_nil <| d_then ?_
    refine c_flat [(2, .int .i64 10)] ⟨rfl, trivial⟩ (fun u => ?_)
    refine c_ret <| d_ret_then ?_
    replace hm := Option.some.inj hm
    subst hm
    refine d_retC () Try.results32 ?_ trivial (fun W h => ok_pre (H1 := [_]) (R1 := []) h (fun W hφ => hφ)) (.inr rfl)
    refine res_tmp <| res_nil ?_
    exact rfl
   ·
    have h8' : x6 = true := by revert h8; cases x6 <;> simp
    replace hm := ite_t hm h8'
    refine c_skip <| d_then <| c_seq <| c_region <| g_v rfl r_assign <| g_nil <| d_then ?_
    refine c_flat [(2, .int .i64 0)] ⟨rfl, trivial⟩ (fun u => ?_)
    refine c_ret ?_
    replace hm := Option.some.inj hm
    subst hm
    refine d_retC () Try.results32 ?_ trivial (fun W h => ok_pre (H1 := [_]) (R1 := []) h (fun W hφ => hφ)) (.inr rfl)
    refine res_tmp <| res_nil ?_
    exact rfl
noncomputable def m_ref04_Packer_Patch (p1 : Int) (p2 : Int) (o0 : Gref04_Packer) : Option (Int × Gref04_Packer) :=
  if p1 < 0 then
    some (1, o0)
  else
    if w64 ((o0.fB.size : Int) - 2) < p1 then
      some (1, o0)
    else
      (scutHi o0.fB p1).bind fun s13 =>
      (scutLo o0.fB (w64 (p1 + 2))).bind fun s14 =>
      (sadd s13 (strOfNums [IntKind.u8.wrap (IntKind.u16.wrap (p2.tdiv 256)), IntKind.u8.wrap (p2.tmod 256)])).bind fun s16 =>
      (sadd s16 s14).bind fun s17 =>
      some (0, (⟨s17, o0.fL⟩ : Gref04_Packer))
theorem c_ref04_Packer_Patch {w0 : World} {M : Nat → Prop} {H : List (Nat × Nat × Obj)} {R : List (Nat × Row)} {φ : World → Prop} (p1 : Int) (p2 : Int) (go0 : Nat) (o0 : Gref04_Packer) (Ao0_0 : Option Addr) (co0_0 : Nat) (hco0_0 : o0.fL.length ≤ co0_0) (r : Int × Gref04_Packer) (hm : m_ref04_Packer_Patch p1 p2 o0 = some r) :
    Cn Try.prog 76 #[.pointer (some ⟨go0, 0, none⟩), .int .i64 p1, .int .u16 p2] ⟨w0, M, (1000, go0, .cells #[.string o0.fB, .slice Ao0_0 o0.fL.length co0_0] 38 (0, 0)) :: H, (1000, ⟨.slice Ao0_0 o0.fL.length co0_0, 145, 2, o0.fL.length, o0.fL.flatMap Gref04_Place.enc⟩) :: R, φ⟩ (fun x : Option Addr × Nat => .int .i64 r.1) (fun x => r.2.fL.length ≤ x.2) (fun x => ⟨w0, M, (1000, go0, .cells #[.string r.2.fB, .slice x.1 r.2.fL.length x.2] 38 (0, 0)) :: H, (2000, ⟨.slice x.1 r.2.fL.length x.2, 145, 2, r.2.fL.length, r.2.fL.flatMap Gref04_Place.enc⟩) :: R, φ⟩) := by
 unfold m_ref04_Packer_Patch at hm
 refine cn_intro (fn := Try.f76) (N := 45) Try.func76 rfl Try.ntmps76 rfl <| c_seq <| c_region <| g_v rfl r_assign <| g_nil <| d_then <| c_seq <| c_seq <| c_region <| g_v rfl r_move ?_
 refine g_v rfl (r_lss rfl rfl) <| g_v rfl r_move ?_
 refine g_if rfl rfl rfl rfl rfl (fun h1 => ?_) (fun h1 => ?_)
 ·
  replace hm := ite_f hm (of_decide_eq_false h1)
  refine g_v rfl r_move <| g_do rfl rfl rfl rfl rfl h1 <| g_v rfl r_move <| g_do rfl rfl rfl rfl rfl h1 <| g_v rfl (r_nilck rfl) <| g_do rfl rfl rfl rfl rfl h1 <| g_v rfl (r_field (n := 0) Try.underlying38 rfl Try.sizeOf9 rfl rfl) <| g_do rfl rfl rfl rfl rfl h1 <| g_v rfl (r_load (tag := 1000) rfl rfl rfl Try.isAgg9) <| g_do rfl rfl rfl rfl rfl h1 ?_
  refine g_v rfl (r_len Try.underlying9 rfl) <| g_do rfl rfl rfl rfl rfl h1 <| g_v rfl (r_sub rfl rfl rfl) <| g_do rfl rfl rfl rfl rfl h1 <| g_v rfl (r_gtr rfl rfl) <| g_v rfl (r_pick0 rfl h1) <| g_nil <| d_then ?_
  refine c_flat [(0, .pointer (some ⟨go0, 0, none⟩)), (1, .int .i64 p1), (2, .int .u16 p2), (18, .bool (decide (w64 ((o0.fB.size : Int) - 2) < p1)))] ⟨rfl, rfl, rfl, rfl, trivial⟩ (fun u => ?_)
  refine c_sta ⟨w0, M, (1000, go0, .cells #[.string o0.fB, .slice Ao0_0 o0.fL.length co0_0] 38 (0, 0)) :: H, (1000, ⟨.slice Ao0_0 o0.fL.length co0_0, 145, 2, o0.fL.length, o0.fL.flatMap Gref04_Place.enc⟩) :: R, φ⟩ (fun _ h => h) ?_
  refine c_cond rfl (fun h2 => ?_) (fun h2 => ?_)
  ·
   replace hm := ite_t hm (of_decide_eq_true h2)
   refine c_seq <| c_region <| g_v rfl r_assign <| g_nil <| d_then <| c_ret <| d_ret_then ?_
   replace hm := Option.some.inj hm
   subst hm
   refine d_sta _ (fun W h => ok_frontR (t := 1000) (t' := 2000) h rfl) ?_
   refine d_retC (Ao0_0, co0_0) Try.results76 ?_ hco0_0 (fun W h => h.phi (fun W hφ => hφ)) (.inr rfl)
   refine res_tmp <| res_nil ?_
   exact rfl
  ·
   replace hm := ite_f hm (of_decide_eq_false h2)
   refine c_skip <| d_then <| c_seq <| ga_start (n := 27) ⟨w0, M, (1000, go0, .cells #[.string o0.fB, .slice Ao0_0 o0.fL.length co0_0] 38 (0, 0)) :: H, (1000, ⟨.slice Ao0_0 o0.fL.length co0_0, 145, 2, o0.fL.length, o0.fL.flatMap Gref04_Place.enc⟩) :: R, φ⟩ [26] #[false, false, false, false, false, false, false, false, false, false, false, false, false, false, false, false, false, false, false, false, false, false, false, false, false, false, false] (fun W h => h.phi (fun W hφ => hφ)) mixed rfl rfl <| ga_v (i := 0) (bz 27 1) rfl (by kernel_rfl) (fun _ _ _ _ h => h) rfl (r_move) <| ga_v (i := 1) (bz 27 3) rfl (by kernel_rfl) (fun _ _ _ _ h => h) rfl (r_move) <| ga_v (i := 2) (bz 27 7) rfl (by kernel_rfl) (fun _ _ _ _ h => h) rfl (r_nilck rfl) <| ga_v (i := 3) (bz 27 15) rfl (by kernel_rfl) (fun _ _ _ _ h => h) rfl (r_field (n := 0) Try.underlying38 rfl Try.sizeOf9 rfl rfl) <| ga_v (i := 4) (bz 27 31) rfl (by kernel_rfl) (fun _ _ _ _ h => h) rfl (r_load (tag := 1000) rfl rfl rfl Try.isAgg9) <| ga_v (i := 5) (bz 27 63) rfl (by kernel_rfl) (fun _ _ _ _ h => h) rfl (r_move) ?_
   replace hm := bnd hm
   obtain ⟨s13, hs13, hm⟩ := hm
   refine ga_v (i := 6) (bz 27 127) rfl (by kernel_rfl) (fun _ _ _ _ h => h) rfl (r_scutHi Try.underlying9 rfl rfl hs13) <| ga_v (i := 7) (bz 27 255) rfl (by kernel_rfl) (fun _ _ _ _ h => h) rfl (r_move) <| ga_v (i := 8) (bz 27 511) rfl (by kernel_rfl) (fun _ _ _ _ h => h) rfl (r_quo rfl rfl (by decide) rfl) <| ga_v (i := 9) (bz 27 1023) rfl (by kernel_rfl) (fun _ _ _ _ h => h) rfl (r_conv Try.underlying24 Try.underlying5 rfl rfl) <| ga_v (i := 10) (bz 27 2047) rfl (by kernel_rfl) (fun _ _ _ _ h => h) rfl (r_move) <| ga_v (i := 11) (bz 27 4095) rfl (by kernel_rfl) (fun _ _ _ _ h => h) rfl (r_rem rfl rfl (by decide) rfl) <| ga_v (i := 12) (bz 27 8191) rfl (by kernel_rfl) (fun _ _ _ _ h => h) rfl (r_conv Try.underlying24 Try.underlying5 rfl rfl) <| ga_v (i := 16) (bz 27 73727) rfl (by kernel_rfl) (fun _ _ _ _ h => h) rfl (r_move) <| ga_v (i := 17) (bz 27 204799) rfl (by kernel_rfl) (fun _ _ _ _ h => h) rfl (r_nilck rfl) <| ga_v (i := 18) (bz 27 466943) rfl (by kernel_rfl) (fun _ _ _ _ h => h) rfl (r_field (n := 0) Try.underlying38 rfl Try.sizeOf9 rfl rfl) ?_
   refine ga_v (i := 19) (bz 27 991231) rfl (by kernel_rfl) (fun _ _ _ _ h => h) rfl (r_load (tag := 1000) rfl rfl rfl Try.isAgg9) <| ga_v (i := 20) (bz 27 2039807) rfl (by kernel_rfl) (fun _ _ _ _ h => h) rfl (r_move) <| ga_v (i := 21) (bz 27 4136959) rfl (by kernel_rfl) (fun _ _ _ _ h => h) rfl (r_add rfl rfl rfl) ?_
   replace hm := bnd hm
   obtain ⟨s14, hs14, hm⟩ := hm
   refine ga_v (i := 22) (bz 27 8331263) rfl (by kernel_rfl) (fun _ _ _ _ h => h) rfl (r_scutLo Try.underlying9 rfl rfl hs14) ?_
   refine ga_e (i := 13) (bz 27 8339455) rfl (by kernel_rfl) (by decide) rfl  (e_lit (tag := 100320) (l := [IntKind.u8.wrap (IntKind.u16.wrap (p2.tdiv 256)), IntKind.u8.wrap (p2.tmod 256)]) (enc := (fun x : Int => [Value.int .u8 x])) (sz := 1) rfl Try.underlying77 (lit5_4 _ _) rfl rfl (fun _ => rfl)) (fun g15 W _ h => (h.dropR (t := 100320) rfl).phi (fun W hφ => hφ)) (fun g15 _ => ?_)
   refine ga_r (i := 14) (bz 27 8355839) rfl (by kernel_rfl) (by decide) rfl (r_textE Try.underlying77 Try.underlying5 Try.underlying9 rfl (fun W hS => rowCl (tag := 100320) rfl W hS)) ?_
   replace hm := bnd hm
   obtain ⟨s16, hs16, hm⟩ := hm
   refine ga_r (i := 15) (bz 27 8388607) rfl (by kernel_rfl) (by decide) rfl (r_addT rfl rfl hs16) ?_
   replace hm := bnd hm
   obtain ⟨s17, hs17, hm⟩ := hm
   refine ga_r (i := 23) (bz 27 16777215) rfl (by kernel_rfl) (by decide) rfl (r_addT rfl rfl hs17) <| ga_r (i := 24) (bz 27 33554431) rfl (by kernel_rfl) (by decide) rfl (r_nilck rfl) <| ga_r (i := 25) (bz 27 67108863) rfl (by kernel_rfl) (by decide) rfl (r_field (n := 0) Try.underlying38 rfl Try.sizeOf9 rfl rfl) <| ga_lastL (i := 26) (tag := 1000) (bz 27 134217727) rfl (by kernel_rfl) (by decide) rfl rfl rfl rfl Try.sizeOf9 rfl rfl <| gz_done (by kernel_rfl) <| d_then ?_
   refine c_flat [] trivial (fun u => ?_)
   refine c_sta ⟨w0, M, (1000, go0, .cells #[.string s17, .slice Ao0_0 o0.fL.length co0_0] 38 (0, 0)) :: H, (100320, ⟨.slice (some ⟨g15, 0, none⟩) [IntKind.u8.wrap (IntKind.u16.wrap (p2.tdiv 256)), IntKind.u8.wrap (p2.tmod 256)].length 2, 5, 1, [IntKind.u8.wrap (IntKind.u16.wrap (p2.tdiv 256)), IntKind.u8.wrap (p2.tmod 256)].length, [IntKind.u8.wrap (IntKind.u16.wrap (p2.tdiv 256)), IntKind.u8.wrap (p2.tmod 256)].flatMap (fun x : Int => [Value.int .u8 x])⟩) :: (1000, ⟨.slice Ao0_0 o0.fL.length co0_0, 145, 2, o0.fL.length, o0.fL.flatMap Gref04_Place.enc⟩) :: R, φ⟩ (fun _ h => h) <| c_seq <| c_region <| g_v rfl r_assign <| g_nil <| d_then <| c_ret ?_
   replace hm := Option.some.inj hm
   subst hm
   refine d_sta _ (fun W h => ok_frontR (t := 1000) (t' := 2000) h rfl) ?_
   refine d_retC (Ao0_0, co0_0) Try.results76 ?_ hco0_0 (fun W h => (h.dropR (t := 100320) rfl).phi (fun W hφ => hφ)) (.inr rfl)
   refine res_tmp <| res_nil ?_
   exact rfl
 ·
  replace hm := ite_t hm (of_decide_eq_true h1)
  refine g_no rfl rfl rfl rfl rfl h1 <| g_no rfl rfl rfl rfl rfl h1 <| g_no rfl rfl rfl rfl rfl h1 <| g_no rfl rfl rfl rfl rfl h1 <| g_no rfl rfl rfl rfl rfl h1 <| g_no rfl rfl rfl rfl rfl h1 <| g_no rfl rfl rfl rfl rfl h1 <| g_v rfl (r_pick1 rfl h1) <| g_nil <| d_then ?_
  refine c_cond1 rfl rfl <| c_seq <| c_region <| g_v rfl r_assign <| g_nil <| d_then <| c_ret <| d_ret_then ?_
  replace hm := Option.some.inj hm
  subst hm
  refine d_sta _ (fun W h => ok_frontR (t := 1000) (t' := 2000) h rfl) ?_
  refine d_retC (Ao0_0, co0_0) Try.results76 ?_ hco0_0 (fun W h => h.phi (fun W hφ => hφ)) (.inr rfl)
  refine res_tmp <| res_nil ?_
  exact rfl
noncomputable def m_ref05_Put_j1 (x22 : Gref04_Packer) (l91 : List Gref04_Place) (s94 : ByteArray) : Option (Int × Gref04_Packer) :=
  (m_ref04_Packer_Patch (x22.fB.size : Int) (IntKind.u16.wrap (w64 ((w64 ((s94.size : Int) - (x22.fB.size : Int))) - 2))) (⟨s94, l91⟩ : Gref04_Packer)).bind fun (z101 : Int × Gref04_Packer) =>
  some (0, z101.2)
noncomputable def m_ref05_Put_j2 (x34 : ByteArray) (x22 : Gref04_Packer) (l144 : List Gref04_Place) (s147 : ByteArray) : Option (Int × Gref04_Packer) :=
  (sadd s147 x34).bind fun s148 =>
  m_ref05_Put_j1 x22 l144 s148
noncomputable def m_ref05_Put_s3 (x33 : List ByteArray) (l166 : List Gref04_Place) (i169 : Int) (s170 : ByteArray) : Option (((List Gref04_Place) × Int × ByteArray) ⊕ ((List Gref04_Place) × ByteArray)) :=
  if i169 < (x33.length : Int) then
    (at_ x33 i169).bind fun x190 =>
    (m_ref04_Packer_Name x190 true (⟨s170, l166⟩ : Gref04_Packer)).bind fun (z200 : Int × Gref04_Packer) =>
    some (.inl (z200.2.fL, w64 (i169 + 1), z200.2.fB))
  else
    some (.inr (l166, s170))
noncomputable def m_ref05_Put (p1 : GRR) (o0 : Gref04_Packer) : Option (Int × Gref04_Packer) :=
  (m_ref05_Check p1).bind fun x2 =>
  if x2 ≠ 0 then
    some (x2, o0)
  else
    (m_ref04_Packer_Name p1.fName true o0).bind fun (z11 : Int × Gref04_Packer) =>
    (m_ref04_Packer_Number (w64 p1.fType) 2 z11.2).bind fun x12 =>
    (m_ref04_Packer_Number (w64 p1.fClass) 2 x12).bind fun x17 =>
    (m_ref04_Packer_Number (w64 p1.fTTL) 4 x17).bind fun x22 =>
    (m_ref04_Packer_Number 0 2 x22).bind fun x27 =>
    (m_ref05_Names p1.fType p1.fData).bind fun (z40 : ByteArray × (List ByteArray) × ByteArray × Bool) =>
    if z40.2.2.2 = true then
      (sadd x27.fB z40.1).bind fun s103 =>
      (loop (fun s => m_ref05_Put_s3 z40.2.1 s.1 s.2.1 s.2.2) (x27.fL, 0, s103)).bind fun e => m_ref05_Put_j2 z40.2.2.1 x22 e.1 e.2
    else
      (sadd x27.fB p1.fData).bind fun s204 =>
      m_ref05_Put_j1 x22 x27.fL s204
theorem c_ref05_Put {w0 : World} {M : Nat → Prop} {H : List (Nat × Nat × Obj)} {R : List (Nat × Row)} {φ : World → Prop} (p1 : GRR) (go0 : Nat) (o0 : Gref04_Packer) (Ao0_0 : Option Addr) (co0_0 : Nat) (hco0_0 : o0.fL.length ≤ co0_0) (r : Int × Gref04_Packer) (hm : m_ref05_Put p1 o0 = some r) :
    Cn Try.prog 24 #[.pointer (some ⟨go0, 0, none⟩), .agg #[.string p1.fName, .int .u16 p1.fType, .int .u16 p1.fClass, .int .u32 p1.fTTL, .string p1.fData]] ⟨w0, M, (1000, go0, .cells #[.string o0.fB, .slice Ao0_0 o0.fL.length co0_0] 38 (0, 0)) :: H, (1000, ⟨.slice Ao0_0 o0.fL.length co0_0, 145, 2, o0.fL.length, o0.fL.flatMap Gref04_Place.enc⟩) :: R, φ⟩ (fun x : Option Addr × Nat => .int .i64 r.1) (fun x => r.2.fL.length ≤ x.2) (fun x => ⟨w0, M, (1000, go0, .cells #[.string r.2.fB, .slice x.1 r.2.fL.length x.2] 38 (0, 0)) :: H, (2000, ⟨.slice x.1 r.2.fL.length x.2, 145, 2, r.2.fL.length, r.2.fL.flatMap Gref04_Place.enc⟩) :: R, φ⟩) := by
 unfold m_ref05_Put at hm
 refine cn_intro (fn := Try.f24) (N := 106) Try.func24 rfl Try.ntmps24 rfl <| c_seq <| c_region ?_
 refine g_e rfl (e_box 100030 rfl) (fun g1 _ => ?_)
 refine g_v rfl r_assign <| g_nil <| d_then <| c_seq <| c_region <| g_v rfl (r_loadA (tag := 100030) rfl rfl Try.isAgg27 Try.sizeOf27 rfl rfl) ?_
 replace hm := bnd hm
 obtain ⟨x2, hx3, hm⟩ := hm
 refine g_cn ⟨w0, M, _, _, φ⟩ (fun _ h => h) Try.call32 rfl rfl (c_ref05_Check p1 _ hx3) (fun _ _ => ?_)
 refine g_v rfl r_assign <| g_nil <| d_then <| c_seq <| c_seq <| c_region <| g_v rfl r_move <| g_v rfl (r_neq rfl rfl) <| g_nil <| d_then ?_
 refine c_cond rfl (fun h4 => ?_) (fun h4 => ?_)
 ·
  replace hm := ite_t hm (of_decide_eq_true h4)
  refine c_seq <| c_region <| g_v rfl r_move <| g_v rfl r_assign <| g_nil <| d_then ?_
  refine c_flat [(4, .int .i64 x2)] ⟨rfl, trivial⟩ (fun u => ?_)
  refine c_sta ⟨w0, M, (100030, g1, .cells #[.string p1.fName, .int .u16 p1.fType, .int .u16 p1.fClass, .int .u32 p1.fTTL, .string p1.fData] 27 (0, 0)) :: (1000, go0, .cells #[.string o0.fB, .slice Ao0_0 o0.fL.length co0_0] 38 (0, 0)) :: H, (1000, ⟨.slice Ao0_0 o0.fL.length co0_0, 145, 2, o0.fL.length, o0.fL.flatMap Gref04_Place.enc⟩) :: R, φ⟩ (fun _ h => h) <| c_ret <| d_ret_then ?_
  replace hm := Option.some.inj hm
  subst hm
  refine d_sta _ (fun W h => ok_frontR (t := 1000) (t' := 2000) h rfl) ?_
  refine d_retC (Ao0_0, co0_0) Try.results24 ?_ hco0_0 (fun W h => (h.dropH (t := 100030) rfl).phi (fun W hφ => hφ)) (.inr rfl)
  refine res_tmp <| res_nil ?_
  exact rfl
 ·
  replace hm := ite_f hm (of_decide_eq_false h4)
  refine c_skip <| d_then <| c_seq <| c_region <| g_v rfl r_move <| g_v rfl (r_field (n := 0) Try.underlying27 rfl Try.sizeOf9 rfl rfl) <| g_v rfl (r_load (tag := 100030) rfl rfl rfl Try.isAgg9) ?_
  replace hm := bnd hm
  obtain ⟨⟨x5, x6⟩, hx7, hm⟩ := hm
  refine g_cn ⟨w0, M, (1000, go0, .cells #[.string o0.fB, .slice Ao0_0 o0.fL.length co0_0] 38 (0, 0)) :: (100030, g1, .cells #[.string p1.fName, .int .u16 p1.fType, .int .u16 p1.fClass, .int .u32 p1.fTTL, .string p1.fData] 27 (0, 0)) :: H, (1000, ⟨.slice Ao0_0 o0.fL.length co0_0, 145, 2, o0.fL.length, o0.fL.flatMap Gref04_Place.enc⟩) :: R, φ⟩ (fun W h => (ok_front (t := 1000) (t' := 1000) (ok_frontR (t := 1000) (t' := 1000) h rfl) rfl)) Try.call73 rfl rfl (c_ref04_Packer_Name p1.fName true go0 o0 Ao0_0 co0_0 hco0_0 _ hx7) (fun ⟨A8, c9⟩ hc9 => ?_)
  refine g_sta _ (fun W h => (ok_frontR (t := 2000) (t' := 1000) (ok_front (t := 1000) (t' := 1000) h rfl) rfl)) <| g_nil <| d_then ?_
  refine c_flat [(0, .pointer (some ⟨go0, 0, none⟩)), (3, .pointer (some ⟨g1, 0, none⟩))] ⟨rfl, rfl, trivial⟩ (fun u => ?_)
  refine c_sta ⟨w0, M, (1000, go0, .cells #[.string x6.fB, .slice A8 x6.fL.length c9] 38 (0, 0)) :: (100030, g1, .cells #[.string p1.fName, .int .u16 p1.fType, .int .u16 p1.fClass, .int .u32 p1.fTTL, .string p1.fData] 27 (0, 0)) :: H, (1000, ⟨.slice A8 x6.fL.length c9, 145, 2, x6.fL.length, x6.fL.flatMap Gref04_Place.enc⟩) :: R, φ⟩ (fun _ h => h) <| c_seq <| c_region <| g_v rfl r_move <| g_v rfl (r_field (n := 1) Try.underlying27 rfl Try.sizeOf24 rfl rfl) <| g_v rfl (r_load (tag := 100030) rfl rfl rfl Try.isAgg24) <| g_v rfl (r_conv Try.underlying24 Try.underlying3 rfl rfl) ?_
  replace hm := bnd hm
  obtain ⟨x12, hx13, hm⟩ := hm
  refine g_cn ⟨w0, M, (1000, go0, .cells #[.string x6.fB, .slice A8 x6.fL.length c9] 38 (0, 0)) :: (100030, g1, .cells #[.string p1.fName, .int .u16 p1.fType, .int .u16 p1.fClass, .int .u32 p1.fTTL, .string p1.fData] 27 (0, 0)) :: H, (1000, ⟨.slice A8 x6.fL.length c9, 145, 2, x6.fL.length, x6.fL.flatMap Gref04_Place.enc⟩) :: R, φ⟩ (fun W h => (ok_front (t := 1000) (t' := 1000) (ok_frontR (t := 1000) (t' := 1000) h rfl) rfl)) Try.call74 rfl rfl (c_ref04_Packer_Number (w64 p1.fType) 2 go0 x6 A8 c9 hc9 _ hx13) (fun ⟨A14, c15⟩ hc15 => ?_)
  refine g_sta _ (fun W h => (ok_frontR (t := 2000) (t' := 1000) (ok_front (t := 1000) (t' := 1000) h rfl) rfl)) <| g_nil <| d_then <| c_seq <| c_region <| g_v rfl r_move <| g_v rfl (r_field (n := 2) Try.underlying27 rfl Try.sizeOf24 rfl rfl) <| g_v rfl (r_load (tag := 100030) rfl rfl rfl Try.isAgg24) <| g_v rfl (r_conv Try.underlying24 Try.underlying3 rfl rfl) ?_
  replace hm := bnd hm
  obtain ⟨x17, hx18, hm⟩ := hm
  refine g_cn ⟨w0, M, (1000, go0, .cells #[.string x12.fB, .slice A14 x12.fL.length c15] 38 (0, 0)) :: (100030, g1, .cells #[.string p1.fName, .int .u16 p1.fType, .int .u16 p1.fClass, .int .u32 p1.fTTL, .string p1.fData] 27 (0, 0)) :: H, (1000, ⟨.slice A14 x12.fL.length c15, 145, 2, x12.fL.length, x12.fL.flatMap Gref04_Place.enc⟩) :: R, φ⟩ (fun W h => (ok_front (t := 1000) (t' := 1000) (ok_frontR (t := 1000) (t' := 1000) h rfl) rfl)) Try.call74 rfl rfl (c_ref04_Packer_Number (w64 p1.fClass) 2 go0 x12 A14 c15 hc15 _ hx18) (fun ⟨A19, c20⟩ hc20 => ?_)
  refine g_sta _ (fun W h => (ok_frontR (t := 2000) (t' := 1000) (ok_front (t := 1000) (t' := 1000) h rfl) rfl)) <| g_nil <| d_then ?_
  refine c_flat [(0, .pointer (some ⟨go0, 0, none⟩)), (3, .pointer (some ⟨g1, 0, none⟩))] ⟨rfl, rfl, trivial⟩ (fun u => ?_)
  refine c_sta ⟨w0, M, (1000, go0, .cells #[.string x17.fB, .slice A19 x17.fL.length c20] 38 (0, 0)) :: (100030, g1, .cells #[.string p1.fName, .int .u16 p1.fType, .int .u16 p1.fClass, .int .u32 p1.fTTL, .string p1.fData] 27 (0, 0)) :: H, (1000, ⟨.slice A19 x17.fL.length c20, 145, 2, x17.fL.length, x17.fL.flatMap Gref04_Place.enc⟩) :: R, φ⟩ (fun _ h => h) <| c_seq <| c_region <| g_v rfl r_move <| g_v rfl (r_field (n := 3) Try.underlying27 rfl Try.sizeOf25 rfl rfl) <| g_v rfl (r_load (tag := 100030) rfl rfl rfl Try.isAgg25) <| g_v rfl (r_conv Try.underlying25 Try.underlying3 rfl rfl) ?_
  replace hm := bnd hm
  obtain ⟨x22, hx23, hm⟩ := hm
  refine g_cn ⟨w0, M, (1000, go0, .cells #[.string x17.fB, .slice A19 x17.fL.length c20] 38 (0, 0)) :: (100030, g1, .cells #[.string p1.fName, .int .u16 p1.fType, .int .u16 p1.fClass, .int .u32 p1.fTTL, .string p1.fData] 27 (0, 0)) :: H, (1000, ⟨.slice A19 x17.fL.length c20, 145, 2, x17.fL.length, x17.fL.flatMap Gref04_Place.enc⟩) :: R, φ⟩ (fun W h => (ok_front (t := 1000) (t' := 1000) (ok_frontR (t := 1000) (t' := 1000) h rfl) rfl)) Try.call74 rfl rfl (c_ref04_Packer_Number (w64 p1.fTTL) 4 go0 x17 A19 c20 hc20 _ hx23) (fun ⟨A24, c25⟩ hc25 => ?_)
  refine g_sta _ (fun W h => (ok_frontR (t := 2000) (t' := 1000) (ok_front (t := 1000) (t' := 1000) h rfl) rfl)) <| g_nil <| d_then <| c_seq <| c_region <| g_v rfl r_move <| g_v rfl (r_nilck rfl) <| g_v rfl (r_field (n := 0) Try.underlying38 rfl Try.sizeOf9 rfl rfl) <| g_v rfl (r_load (tag := 1000) rfl rfl rfl Try.isAgg9) <| g_v rfl (r_len Try.underlying9 rfl) ?_
  refine g_v rfl r_assign <| g_nil <| d_then ?_
  refine c_flat [(0, .pointer (some ⟨go0, 0, none⟩)), (3, .pointer (some ⟨g1, 0, none⟩)), (6, .int .i64 (x22.fB.size : Int))] ⟨rfl, rfl, rfl, trivial⟩ (fun u => ?_)
  refine c_sta ⟨w0, M, (1000, go0, .cells #[.string x22.fB, .slice A24 x22.fL.length c25] 38 (0, 0)) :: (100030, g1, .cells #[.string p1.fName, .int .u16 p1.fType, .int .u16 p1.fClass, .int .u32 p1.fTTL, .string p1.fData] 27 (0, 0)) :: H, (1000, ⟨.slice A24 x22.fL.length c25, 145, 2, x22.fL.length, x22.fL.flatMap Gref04_Place.enc⟩) :: R, φ⟩ (fun _ h => h) <| c_seq <| c_region <| g_v rfl r_move ?_
  replace hm := bnd hm
  obtain ⟨x27, hx28, hm⟩ := hm
  refine g_cn ⟨w0, M, (1000, go0, .cells #[.string x22.fB, .slice A24 x22.fL.length c25] 38 (0, 0)) :: (100030, g1, .cells #[.string p1.fName, .int .u16 p1.fType, .int .u16 p1.fClass, .int .u32 p1.fTTL, .string p1.fData] 27 (0, 0)) :: H, (1000, ⟨.slice A24 x22.fL.length c25, 145, 2, x22.fL.length, x22.fL.flatMap Gref04_Place.enc⟩) :: R, φ⟩ (fun W h => (ok_front (t := 1000) (t' := 1000) (ok_frontR (t := 1000) (t' := 1000) h rfl) rfl)) Try.call74 rfl rfl (c_ref04_Packer_Number 0 2 go0 x22 A24 c25 hc25 _ hx28) (fun ⟨A29, c30⟩ hc30 => ?_)
  refine g_sta _ (fun W h => (ok_frontR (t := 2000) (t' := 1000) (ok_front (t := 1000) (t' := 1000) h rfl) rfl)) <| g_nil <| d_then <| c_seq <| c_region <| g_v rfl (r_field (n := 1) Try.underlying27 rfl Try.sizeOf24 rfl rfl) <| g_v rfl (r_load (tag := 100030) rfl rfl rfl Try.isAgg24) <| g_v rfl (r_field (n := 4) Try.underlying27 rfl Try.sizeOf9 rfl rfl) <| g_v rfl (r_load (tag := 100030) rfl rfl rfl Try.isAgg9) ?_
  replace hm := bnd hm
  obtain ⟨⟨x32, x33, x34, x35⟩, hx36, hm⟩ := hm
  refine g_cn ⟨w0, M, _, _, φ⟩ (fun _ h => h) Try.call75 rfl rfl (c_ref05_Names p1.fType p1.fData _ hx36) (fun ⟨A37, c38⟩ hc38 => ?_)
  refine g_sta _ (fun W h => (ok_frontR (t := 2000) (t' := 100480) h rfl)) <| g_v rfl r_move <| g_v rfl (r_extract rfl rfl) <| g_v rfl (r_extract rfl rfl) <| g_v rfl (r_extract rfl rfl) <| g_v rfl (r_extract rfl rfl) <| g_v rfl r_assign <| g_v rfl r_assign <| g_v rfl r_assign <| g_v rfl r_assign ?_
  refine g_nil <| d_then ?_
  refine c_flat [(0, .pointer (some ⟨go0, 0, none⟩)), (3, .pointer (some ⟨g1, 0, none⟩)), (6, .int .i64 (x22.fB.size : Int)), (7, .string x32), (8, .slice A37 x33.length c38), (9, .string x34), (10, .bool x35)] ⟨rfl, rfl, rfl, rfl, rfl, rfl, rfl, trivial⟩ (fun u => ?_)
  refine c_sta ⟨w0, M, (1000, go0, .cells #[.string x27.fB, .slice A29 x27.fL.length c30] 38 (0, 0)) :: (100030, g1, .cells #[.string p1.fName, .int .u16 p1.fType, .int .u16 p1.fClass, .int .u32 p1.fTTL, .string p1.fData] 27 (0, 0)) :: H, (100480, ⟨.slice A37 x33.length c38, 9, 1, x33.length, x33.flatMap (fun x : ByteArray => [Value.string x])⟩) :: (1000, ⟨.slice A29 x27.fL.length c30, 145, 2, x27.fL.length, x27.fL.flatMap Gref04_Place.enc⟩) :: R, φ⟩ (fun _ h => h) <| c_seq ?_
  refine c_cut (ι := (List Gref04_Place) × ByteArray × Option Addr × Nat) [0, 6] (fun ⟨l91, s94, A92, c93⟩ => []) (fun ⟨l91, s94, A92, c93⟩ => ⟨w0, M, (1000, go0, .cells #[.string s94, .slice A92 l91.length c93] 38 (0, 0)) :: H, (1000, ⟨.slice A92 l91.length c93, 145, 2, l91.length, l91.flatMap Gref04_Place.enc⟩) :: R, φ⟩) (fun ⟨l91, s94, A92, c93⟩ => m_ref05_Put_j1 x22 l91 s94 = some r ∧ l91.length ≤ c93) ?_ (fun ⟨l91, s94, A92, c93⟩ u ⟨hm, hc93⟩ => ?_)
  ·
   refine c_seq <| c_region <| g_v rfl r_move <| g_nil <| d_then ?_
   refine c_cond rfl (fun h102 => ?_) (fun h102 => ?_)
   ·
    replace hm := ite_t hm h102
    refine c_seq <| c_region <| g_v rfl r_move <| g_v rfl r_move <| g_v rfl (r_nilck rfl) <| g_v rfl (r_field (n := 0) Try.underlying38 rfl Try.sizeOf9 rfl rfl) <| g_v rfl (r_load (tag := 1000) rfl rfl rfl Try.isAgg9) <| g_v rfl r_move ?_
    replace hm := bnd hm
    obtain ⟨s103, hs103, hm⟩ := hm
    refine g_v rfl (r_addT rfl rfl hs103) <| g_v rfl (r_nilck rfl) <| g_v rfl (r_field (n := 0) Try.underlying38 rfl Try.sizeOf9 rfl rfl) <| g_storeL (tag := 1000) rfl rfl rfl rfl Try.sizeOf9 rfl rfl <| g_nil <| d_then ?_
    refine c_flat [(0, .pointer (some ⟨go0, 0, none⟩)), (6, .int .i64 (x22.fB.size : Int)), (8, .slice A37 x33.length c38), (9, .string x34)] ⟨rfl, rfl, rfl, rfl, trivial⟩ (fun u => ?_)
    refine c_sta ⟨w0, M, (1000, go0, .cells #[.string s103, .slice A29 x27.fL.length c30] 38 (0, 0)) :: (100030, g1, .cells #[.string p1.fName, .int .u16 p1.fType, .int .u16 p1.fClass, .int .u32 p1.fTTL, .string p1.fData] 27 (0, 0)) :: H, (100480, ⟨.slice A37 x33.length c38, 9, 1, x33.length, x33.flatMap (fun x : ByteArray => [Value.string x])⟩) :: (1000, ⟨.slice A29 x27.fL.length c30, 145, 2, x27.fL.length, x27.fL.flatMap Gref04_Place.enc⟩) :: R, φ⟩ (fun _ h => h) <| c_seq <| c_seq <| c_region <| g_v rfl r_assign <| g_nil <| d_then ?_
    refine c_cut (ι := (List Gref04_Place) × ByteArray × Option Addr × Nat) [0, 6, 9] (fun ⟨l144, s147, A145, c146⟩ => []) (fun ⟨l144, s147, A145, c146⟩ => ⟨w0, M, (1000, go0, .cells #[.string s147, .slice A145 l144.length c146] 38 (0, 0)) :: H, (1000, ⟨.slice A145 l144.length c146, 145, 2, l144.length, l144.flatMap Gref04_Place.enc⟩) :: R, φ⟩) (fun ⟨l144, s147, A145, c146⟩ => m_ref05_Put_j2 x34 x22 l144 s147 = some r ∧ l144.length ≤ c146) ?_ (fun ⟨l144, s147, A145, c146⟩ u ⟨hm, hc146⟩ => ?_)
    ·
     refine c_block ?_
     replace hm := bnd hm
     obtain ⟨out3, hl3, hr3⟩ := hm
     obtain ⟨n188', hl3⟩ := loop_lp hl3
     refine c_loopU (ι := Nat × (List Gref04_Place) × Int × ByteArray × Option Addr × Nat) [0, 6, 8, 9, 11] (fun ⟨n188, l166, i169, s170, A167, c168⟩ => [(11, .int .i64 i169)]) (fun ⟨n188, l166, i169, s170, A167, c168⟩ => ⟨w0, M, (1000, go0, .cells #[.string s170, .slice A167 l166.length c168] 38 (0, 0)) :: H, (100480, ⟨.slice A37 x33.length c38, 9, 1, x33.length, x33.flatMap (fun x : ByteArray => [Value.string x])⟩) :: (1000, ⟨.slice A167 l166.length c168, 145, 2, l166.length, l166.flatMap Gref04_Place.enc⟩) :: R, φ⟩) (fun ⟨n188, l166, i169, s170, A167, c168⟩ => Lp (fun s => m_ref05_Put_s3 x33 s.1 s.2.1 s.2.2) n188 (l166, i169, s170) out3 ∧ l166.length ≤ c168) (fun ⟨n188, l166, i169, s170, A167, c168⟩ => n188) (n188', x27.fL, 0, s103, A29, c30) ⟨hl3, hc30⟩ ⟨rfl, rfl, rfl, rfl, rfl, trivial⟩ (fun W h => (h.dropH (t := 100030) rfl).phi (fun W hφ => hφ)) (fun ⟨n188, l166, i169, s170, A167, c168⟩ u ⟨hlp, hc168⟩ => ?_)
     obtain ⟨o3, hm, hnx3⟩ := lp_step hlp
     clear hlp
     replace hm : m_ref05_Put_s3 x33 l166 i169 s170 = some o3 := hm
     unfold m_ref05_Put_s3 at hm
     refine c_flat [(0, .pointer (some ⟨go0, 0, none⟩)), (6, .int .i64 (x22.fB.size : Int)), (8, .slice A37 x33.length c38), (9, .string x34), (11, .int .i64 i169)] ⟨rfl, rfl, rfl, rfl, rfl, trivial⟩ (fun u => ?_)
     refine c_sta ⟨w0, M, (1000, go0, .cells #[.string s170, .slice A167 l166.length c168] 38 (0, 0)) :: H, (100480, ⟨.slice A37 x33.length c38, 9, 1, x33.length, x33.flatMap (fun x : ByteArray => [Value.string x])⟩) :: (1000, ⟨.slice A167 l166.length c168, 145, 2, l166.length, l166.flatMap Gref04_Place.enc⟩) :: R, φ⟩ (fun _ h => h) <| c_seq <| c_seq <| c_region <| g_v rfl r_move <| g_v rfl r_move <| g_v rfl (r_lenL Try.underlying105 rfl) <| g_v rfl (r_lss rfl rfl) <| g_nil <| d_then ?_
     refine c_cond rfl (fun h189 => ?_) (fun h189 => ?_)
     ·
      replace hm := ite_t hm (of_decide_eq_true h189)
      refine c_skip <| d_then <| c_seq <| c_block <| c_region <| g_v rfl r_move <| g_v rfl r_move <| g_v rfl r_move ?_
      replace hm := bnd hm
      obtain ⟨x190, hx190, hm⟩ := hm
      refine g_know _ (fun W hS => cl_at (p := (Sta.ok ⟨w0, M, (1000, go0, .cells #[.string s170, .slice A167 l166.length c168] 38 (0, 0)) :: H, (100480, ⟨.slice A37 x33.length c38, 9, 1, x33.length, x33.flatMap (fun x : ByteArray => [Value.string x])⟩) :: (1000, ⟨.slice A167 l166.length c168, 145, 2, l166.length, l166.flatMap Gref04_Place.enc⟩) :: R, φ⟩)) (sz := 1) (fun _ => rfl) (by decide) hS (fun W hS => rowCl (S := ⟨w0, M, (1000, go0, .cells #[.string s170, .slice A167 l166.length c168] 38 (0, 0)) :: H, (100480, ⟨.slice A37 x33.length c38, 9, 1, x33.length, x33.flatMap (fun x : ByteArray => [Value.string x])⟩) :: (1000, ⟨.slice A167 l166.length c168, 145, 2, l166.length, l166.flatMap Gref04_Place.enc⟩) :: R, φ⟩) (tag := 100480) rfl W hS) hx190) ?_
      rintro ⟨ad191, hA193, f192⟩
      refine g_v rfl (r_ix Try.underlying105 Try.sizeOf9 rfl hA193 rfl hx190) <| g_v rfl (r_ld rfl Try.isAgg9 (fun W hS => Cl.head (f192 W hS))) ?_
      replace hm := bnd hm
      obtain ⟨⟨x194, x195⟩, hx196, hm⟩ := hm
      refine g_cn ⟨w0, M, (1000, go0, .cells #[.string s170, .slice A167 l166.length c168] 38 (0, 0)) :: H, (1000, ⟨.slice A167 l166.length c168, 145, 2, l166.length, l166.flatMap Gref04_Place.enc⟩) :: (100480, ⟨.slice A37 x33.length c38, 9, 1, x33.length, x33.flatMap (fun x : ByteArray => [Value.string x])⟩) :: R, φ⟩ (fun W h => (ok_front (t := 1000) (t' := 1000) (ok_frontR (t := 1000) (t' := 1000) h rfl) rfl)) Try.call73 rfl rfl (c_ref04_Packer_Name x190 true go0 (⟨s170, l166⟩ : Gref04_Packer) A167 c168 hc168 _ hx196) (fun ⟨A197, c198⟩ hc198 => ?_)
      refine g_sta _ (fun W h => (ok_frontR (t := 2000) (t' := 1000) (ok_front (t := 1000) (t' := 1000) h rfl) rfl)) <| g_nil <| d_normal_block <| d_then ?_
      refine c_flat [(0, .pointer (some ⟨go0, 0, none⟩)), (6, .int .i64 (x22.fB.size : Int)), (8, .slice A37 x33.length c38), (9, .string x34), (11, .int .i64 i169)] ⟨rfl, rfl, rfl, rfl, rfl, trivial⟩ (fun u => ?_)
      refine c_sta ⟨w0, M, (1000, go0, .cells #[.string x195.fB, .slice A197 x195.fL.length c198] 38 (0, 0)) :: H, (1000, ⟨.slice A197 x195.fL.length c198, 145, 2, x195.fL.length, x195.fL.flatMap Gref04_Place.enc⟩) :: (100480, ⟨.slice A37 x33.length c38, 9, 1, x33.length, x33.flatMap (fun x : ByteArray => [Value.string x])⟩) :: R, φ⟩ (fun _ h => h) <| c_region <| g_v rfl r_move <| g_v rfl (r_add rfl rfl rfl) <| g_v rfl r_assign <| g_nil ?_
      obtain ⟨n201, hn201, hlp⟩ := nx_inl hm hnx3
      exact d_round (n201, x195.fL, w64 (i169 + 1), x195.fB, A197, c198) ⟨hlp, hc198⟩ hn201 ⟨rfl, rfl, rfl, rfl, rfl, trivial⟩ (fun W h => (ok_frontR (t := 100480) (t' := 100480) (ok_frontR (t := 1000) (t' := 1000) h rfl) rfl).phi (fun W hφ => hφ))
     ·
      replace hm := ite_f hm (of_decide_eq_false h189)
      refine c_exit <| d_exit_then <| d_exit_then <| d_exit_block ?_
      replace hm := nx_out (C := (fun e => m_ref05_Put_j2 x34 x22 e.1 e.2 = some r)) hm hnx3 hr3
      exact d_round (l166, s170, A167, c168) ⟨hm, hc168⟩ Nat.zero_lt_one ⟨rfl, rfl, rfl, trivial⟩ (fun W h => (h.dropR (t := 100480) rfl).phi (fun W hφ => hφ))
    ·
     unfold m_ref05_Put_j2 at hm
     refine d_flat [(0, .pointer (some ⟨go0, 0, none⟩)), (6, .int .i64 (x22.fB.size : Int)), (9, .string x34)] ⟨rfl, rfl, rfl, trivial⟩ (fun u => ?_)
     refine d_sta ⟨w0, M, (1000, go0, .cells #[.string s147, .slice A145 l144.length c146] 38 (0, 0)) :: H, (1000, ⟨.slice A145 l144.length c146, 145, 2, l144.length, l144.flatMap Gref04_Place.enc⟩) :: R, φ⟩ (fun _ h => h) <| d_then <| c_region <| g_v rfl r_move <| g_v rfl r_move <| g_v rfl (r_nilck rfl) <| g_v rfl (r_field (n := 0) Try.underlying38 rfl Try.sizeOf9 rfl rfl) <| g_v rfl (r_load (tag := 1000) rfl rfl rfl Try.isAgg9) <| g_v rfl r_move ?_
     replace hm := bnd hm
     obtain ⟨s148, hs148, hm⟩ := hm
     refine g_v rfl (r_addT rfl rfl hs148) <| g_v rfl (r_nilck rfl) <| g_v rfl (r_field (n := 0) Try.underlying38 rfl Try.sizeOf9 rfl rfl) <| g_storeL (tag := 1000) rfl rfl rfl rfl Try.sizeOf9 rfl rfl <| g_nil ?_
     exact d_round (l144, s148, A145, c146) ⟨hm, hc146⟩ Nat.zero_lt_one ⟨rfl, rfl, trivial⟩ (fun W h => h.phi (fun W hφ => hφ))
   ·
    replace hm := ite_f hm (bool_nt h102)
    refine ga_start (n := 11) ⟨w0, M, (1000, go0, .cells #[.string x27.fB, .slice A29 x27.fL.length c30] 38 (0, 0)) :: (100030, g1, .cells #[.string p1.fName, .int .u16 p1.fType, .int .u16 p1.fClass, .int .u32 p1.fTTL, .string p1.fData] 27 (0, 0)) :: H, (100480, ⟨.slice A37 x33.length c38, 9, 1, x33.length, x33.flatMap (fun x : ByteArray => [Value.string x])⟩) :: (1000, ⟨.slice A29 x27.fL.length c30, 145, 2, x27.fL.length, x27.fL.flatMap Gref04_Place.enc⟩) :: R, φ⟩ [10] #[false, false, false, false, false, false, false, false, false, false, false] (fun W h => h.phi (fun W hφ => hφ)) mixed rfl rfl <| ga_v (i := 0) (bz 11 1) rfl (by kernel_rfl) (fun _ _ _ _ h => h) rfl (r_move) <| ga_v (i := 1) (bz 11 3) rfl (by kernel_rfl) (fun _ _ _ _ h => h) rfl (r_move) <| ga_v (i := 2) (bz 11 7) rfl (by kernel_rfl) (fun _ _ _ _ h => h) rfl (r_nilck rfl) <| ga_v (i := 3) (bz 11 15) rfl (by kernel_rfl) (fun _ _ _ _ h => h) rfl (r_field (n := 0) Try.underlying38 rfl Try.sizeOf9 rfl rfl) <| ga_v (i := 4) (bz 11 31) rfl (by kernel_rfl) (fun _ _ _ _ h => h) rfl (r_load (tag := 1000) rfl rfl rfl Try.isAgg9) <| ga_r (i := 5) (bz 11 63) rfl (by kernel_rfl) (by decide) rfl (r_field (n := 4) Try.underlying27 rfl Try.sizeOf9 rfl rfl) <| ga_r (i := 6) (bz 11 127) rfl (by kernel_rfl) (by decide) rfl (r_load (tag := 100030) rfl rfl rfl Try.isAgg9) ?_
    replace hm := bnd hm
    obtain ⟨s204, hs204, hm⟩ := hm
    refine ga_r (i := 7) (bz 11 255) rfl (by kernel_rfl) (by decide) rfl (r_addT rfl rfl hs204) <| ga_r (i := 8) (bz 11 511) rfl (by kernel_rfl) (by decide) rfl (r_nilck rfl) <| ga_r (i := 9) (bz 11 1023) rfl (by kernel_rfl) (by decide) rfl (r_field (n := 0) Try.underlying38 rfl Try.sizeOf9 rfl rfl) <| ga_lastL (i := 10) (tag := 1000) (bz 11 2047) rfl (by kernel_rfl) (by decide) rfl rfl rfl rfl Try.sizeOf9 rfl rfl <| gz_done (by kernel_rfl) ?_
    exact d_round (x27.fL, s204, A29, c30) ⟨hm, hc30⟩ Nat.zero_lt_one ⟨rfl, rfl, trivial⟩ (fun W h => ((h.dropR (t := 100480) rfl).dropH (t := 100030) rfl).phi (fun W hφ => hφ))
  ·
   unfold m_ref05_Put_j1 at hm
   refine d_flat [(0, .pointer (some ⟨go0, 0, none⟩)), (6, .int .i64 (x22.fB.size : Int))] ⟨rfl, rfl, trivial⟩ (fun u => ?_)
   refine d_sta ⟨w0, M, (1000, go0, .cells #[.string s94, .slice A92 l91.length c93] 38 (0, 0)) :: H, (1000, ⟨.slice A92 l91.length c93, 145, 2, l91.length, l91.flatMap Gref04_Place.enc⟩) :: R, φ⟩ (fun _ h => h) <| d_then <| c_seq <| c_region <| g_v rfl r_move <| g_v rfl r_move <| g_v rfl r_move <| g_v rfl (r_nilck rfl) <| g_v rfl (r_field (n := 0) Try.underlying38 rfl Try.sizeOf9 rfl rfl) <| g_v rfl (r_load (tag := 1000) rfl rfl rfl Try.isAgg9) ?_
   refine g_v rfl (r_len Try.underlying9 rfl) <| g_v rfl r_move <| g_v rfl (r_sub rfl rfl rfl) <| g_v rfl (r_sub rfl rfl rfl) <| g_v rfl (r_conv Try.underlying3 Try.underlying24 rfl rfl) ?_
   replace hm := bnd hm
   obtain ⟨⟨x95, x96⟩, hx97, hm⟩ := hm
   refine g_cn ⟨w0, M, (1000, go0, .cells #[.string s94, .slice A92 l91.length c93] 38 (0, 0)) :: H, (1000, ⟨.slice A92 l91.length c93, 145, 2, l91.length, l91.flatMap Gref04_Place.enc⟩) :: R, φ⟩ (fun W h => (ok_front (t := 1000) (t' := 1000) (ok_frontR (t := 1000) (t' := 1000) h rfl) rfl)) Try.call76 rfl rfl (c_ref04_Packer_Patch (x22.fB.size : Int) (IntKind.u16.wrap (w64 ((w64 ((s94.size : Int) - (x22.fB.size : Int))) - 2))) go0 (⟨s94, l91⟩ : Gref04_Packer) A92 c93 hc93 _ hx97) (fun ⟨A98, c99⟩ hc99 => ?_)
   refine g_sta _ (fun W h => (ok_frontR (t := 2000) (t' := 1000) (ok_front (t := 1000) (t' := 1000) h rfl) rfl)) <| g_nil <| d_then ?_
   refine c_flat [] trivial (fun u => ?_)
   refine c_sta ⟨w0, M, (1000, go0, .cells #[.string x96.fB, .slice A98 x96.fL.length c99] 38 (0, 0)) :: H, (1000, ⟨.slice A98 x96.fL.length c99, 145, 2, x96.fL.length, x96.fL.flatMap Gref04_Place.enc⟩) :: R, φ⟩ (fun _ h => h) <| c_seq <| c_region <| g_v rfl r_assign <| g_nil <| d_then <| c_ret ?_
   replace hm := Option.some.inj hm
   subst hm
   refine d_sta _ (fun W h => ok_frontR (t := 1000) (t' := 2000) h rfl) ?_
   refine d_retC (A98, c99) Try.results24 ?_ hc99 (fun W h => h.phi (fun W hφ => hφ)) (.inr rfl)
   refine res_tmp <| res_nil ?_
   exact rfl
end Go.Proofs.Ytpdhdpefdgndeaa
